/- What the table leaves to others: giving up, and functions that are stood in for. -/
import Derived.Test.YtohebioanhliiaaGreatDoorGB1
import Derived.WalkSpells
import Derived.WalkLawsBesides
import Derived.Shelf.Spec.BitsCarry
import Derived.Shelf.Strconv.Itoa0
set_option maxRecDepth 20000
set_option linter.unusedVariables false
set_option linter.unusedSimpArgs false
namespace Go.Proofs.YtohebioanhliiaaGreatDoor.Ov
section
open Go.RowKit Go
def given(c:Int):PanicEntry:={v:=.iface 128 (.agg #[.int .i64 c]),recovered:=false}
theorem Ow(c:Int)(w:World):Calls Tryz.prog 58 #[.bool true,.int .i64 c] w fun e w'=>e = .returned (.tuple #[])/\w'=w:=by
 have Z9:∀(x:Bool) (w:World),(Op.unary .not (.bool x)).run Tryz.prog w = .ok (.bool (!x)) w:=fun _ _=>rfl;go_enter Tryz.func58,Tryz.ntmps58
 go_wp2
 go_end0
 exact⟨rfl,rfl⟩
theorem Kb(c:Int)(w:World):Calls Tryz.prog 58 #[.bool false,.int .i64 c] w fun e w'=>e = .panicked [given c]/\w'=w:=by
 have Z9:∀(x:Bool) (w:World),(Op.unary .not (.bool x)).run Tryz.prog w = .ok (.bool (!x)) w:=fun _ _=>rfl;go_enter Tryz.func58,Tryz.ntmps58
 go_wp2
 exact⟨rfl,rfl,rfl,rfl⟩
theorem Cf{w:World}{p:Addr}{v:Value}(h:w.cell? p=some v):p.block<w.heap.size:=by
 rcases Nat.lt_or_ge p.block w.heap.size with h1|h1;exact h1;have:w.heap[p.block]?=none:=Array.getElem?_eq_none h1;simp[World.cell?,this]at h
theorem AD(p:Addr)(x c:Int)(Y2:List PanicEntry)(w:World)(hc:w.cell? p=some (.int .i64 x))(hz:w.frozen? p=false) :
   CallsD Tryz.prog 48 #[.pointer (some p)] (.panicking (given c::Y2)) w fun e u' w'=>
     e = .returned (.tuple #[])/\u' = .panicking ({given c with recovered:=true}::Y2)/\w'=(w.alloc (.cells #[.int .i64 c] 128)).setCell p (.int .i64 c):=by
 refine callsD_of_wpS Tryz.func48 rfl fun aaP cs hu=>?_;apply wpS_seq;apply wpS_region;simp[wpOpsS,go_sem,recoverD,hu,Tryz.ntmps48,Exit.thenS,given];refine wpS_of_wp ?_;have hta:∀(w:World),(Instr.typeAssert (.iface 128 (.agg #[.int .i64 c])) 20 128 true).run Tryz.prog w = .ok (.tuple #[.agg #[.int .i64 c],.bool true]) w:=fun _=>rfl;have cu:p.block<w.heap.size:=Cf hc;have mE:∀o,(w.alloc o).cell? p=some (.int .i64 x):=fun o=>by rw[World.cell?_alloc_old (h:=by omega)];exact hc
 have hz2:∀o,(w.alloc o).frozen? p=false:=fun o=>by rw[World.frozen?_alloc_old (h:=by omega)];exact hz
 change Code.wp _ _ _ {tmps:=#[.pointer (some p),undef,undef,undef,.iface 128 (.agg #[.int .i64 c]),undef,undef,undef,undef,undef,undef,undef],defers:=[] } w
 go_wp2
 cases aaP;simp_all[bodyPostS,results,Tryz.results48]
theorem Kc(p:Addr)(w:World) :
   CallsD Tryz.prog 48 #[.pointer (some p)] .returning w fun e u' w'=>e = .returned (.tuple #[])/\u' = .returning/\w'=w:=by
 refine callsD_of_wpS Tryz.func48 rfl fun aaP cs hu=>?_;apply wpS_seq;apply wpS_region;simp[wpOpsS,go_sem,recoverD,hu,Tryz.ntmps48,Exit.thenS,given];refine wpS_of_wp ?_;change Code.wp _ _ _ {tmps:=#[.pointer (some p),undef,undef,undef,.nilIface,undef,undef,undef,undef,undef,undef,undef],defers:=[] } w
 go_wp2
 cases aaP;simp_all[bodyPostS,results,Tryz.results48]
theorem WW{cl:FuncId}{dF:Array Value}{w:World}{P0:World->Prop}{P1:Int->World->Prop}
   (cP:∀w,(callFunc cl dF).run Tryz.prog w = .ok (.enter cl dF) w)
   (hc:Calls Tryz.prog cl dF (w.alloc (.cells #[.int .i64 0] 33)) fun e w2=>
     (w2.cell? ⟨w.heap.size,0,none⟩=some (.int .i64 0)/\w2.frozen? ⟨w.heap.size,0,none⟩=false)/\((e = .returned (.tuple #[])/\P0 w2)\/∃c,e = .panicked [given c]/\P1 c w2)) :
   Calls Tryz.prog 31 #[.func (.func cl) #[] dF] w fun e w'=>∃w2,(e = .returned (.int .i64 0)/\P0 w2/\w'=w2.setCell ⟨w.heap.size,0,none⟩ (.int .i64 0))\/∃c,e = .returned (.int .i64 c)/\P1 c w2/\w'=(w2.alloc (.cells #[.int .i64 c] 128)).setCell ⟨w.heap.size,0,none⟩ (.int .i64 c):=by
 have hmf:∀(fn:Fn) (first cap:Array Value) (w:World),(Instr.makeFunc fn first cap).run Tryz.prog w = .ok (.func fn first cap) w:=fun _ _ _ _=>rfl
 go_enter_defers Tryz.func31,Tryz.ntmps31
 go_wp2
 refine hc.mono ?_;rintro e w2 ⟨⟨mS,hfr⟩,(⟨rfl,hP⟩|⟨c,rfl,hP⟩)⟩
 . go_wp2
   refine leaves_cons (f:=48) (args:=#[.pointer (some ⟨w.heap.size,0,none⟩)]) (by simp) (by simp[go_sem]) ?_;refine(Kc ⟨w.heap.size,0,none⟩ _).mono ?_;rintro e u' w'' ⟨rfl,rfl,rfl⟩;refine⟨.int .i64 0,?_,w2,.inl ⟨rfl,hP,rfl⟩⟩;simp[results,Tryz.results31,go_sem,mS]
 . refine leaves_cons (f:=48) (args:=#[.pointer (some ⟨w.heap.size,0,none⟩)]) (by simp) (by simp[go_sem]) ?_;refine(AD ⟨w.heap.size,0,none⟩ 0 c [] _ mS hfr).mono ?_;rintro e u' w'' ⟨rfl,rfl,rfl⟩;have cu:=Cf mS;simp only at cu;have mE:(w2.alloc (.cells #[.int .i64 c] 128)).cell? ⟨w.heap.size,0,none⟩=some (.int .i64 0):=by rw[World.cell?_alloc_past _ _ _ cu];exact mS
   refine⟨.int .i64 c,?_,w2,.inr ⟨c,rfl,hP,rfl⟩⟩;simp[results,Tryz.results31,go_sem,mE]
end
section
open Go.Sx Go.RowKit Go
theorem enters{f:FuncId}{fn:Func}{c:Code}(hf:PP.funcs[f]?=some fn)(hb:fn.body=some c)(hn:(fn.name == "runtime.NumGoroutine")=false)(w:World)(args:Array Value):(callFunc f args).run PP w = .ok (.enter f args) w:=dT hf hb hn w args
theorem WX:(∀w args,(callFunc 58 args).run PP w = .ok (.enter 58 args) w)/\∀ok c w,Calls PP 58 #[.bool ok,.int .i64 c] w (fun e w'=>w'=w/\((ok=true/\e = .returned (.tuple #[]))\/(ok=false/\e = .panicked [fH 128 c]))):=by
 refine⟨enters Tryz.func58 rfl rfl,fun ok c w=>?_⟩;cases ok;exact(Kb c w).mono fun e w' h=>⟨h.2,.inr ⟨rfl,h.1⟩⟩;exact(Ow c w).mono fun e w' h=>⟨h.2,.inl ⟨rfl,h.1⟩⟩
theorem aaQ:(∀w args,(callFunc 31 args).run PP w = .ok (.enter 31 args) w)/\∀cl dF w (A:World->Prop) (B:Int->World->Prop),(∀w,(callFunc cl dF).run PP w = .ok (.enter cl dF) w)->
   Calls PP cl dF (w.alloc (.cells #[.int .i64 0] 33)) (fun e w2=>w2.heap[w.heap.size]?=some (.cells #[.int .i64 0] 33 (0,0))/\((e = .returned (.tuple #[])/\A w2)\/∃c,e = .panicked [fH 128 c]/\B c w2))->
   Calls PP 31 #[.func (.func cl) #[] dF] w (fun e w'=>∃w2,(e = .returned (.int .i64 0)/\A w2/\w'=w2.setCell ⟨w.heap.size,0,none⟩ (.int .i64 0))\/∃c,e = .returned (.int .i64 c)/\B c w2/\w'=(w2.alloc (.cells #[.int .i64 c] 128)).setCell ⟨w.heap.size,0,none⟩ (.int .i64 c)):=by
 refine⟨enters Tryz.func31 rfl rfl,fun cl dF w A B cP hc=>?_⟩;refine WW (P0:=A) (P1:=B) cP (hc.mono fun e w2 h=>⟨⟨?_,?_⟩,h.2⟩);simp[World.cell?,h.1];simp[World.frozen?,h.1]
end
section
open Go.Sx Go.RowKit Go
theorem idx_eq(l:List UInt8)(b:Int)(h0:0<=b)(h1:b<256):firstIdx (ByteArray.mk l.toArray) b.toNat.toUInt8=idxOf l b:=by
 unfold firstIdx idxOf;have e:(List.range (ByteArray.mk l.toArray).size).find? (fun i=>(ByteArray.mk l.toArray)[i]! == b.toNat.toUInt8)=(List.range l.length).find? (fun i=>decide (((l[i]?).map fun x=>(x.toNat:Int))=some b)):=by
   show(List.range l.length).find? _=_;have gen:∀rs:List Nat,(∀i∈rs,i<l.length)->rs.find? (fun i=>(ByteArray.mk l.toArray)[i]! == b.toNat.toUInt8)=rs.find? (fun i=>decide (((l[i]?).map fun x=>(x.toNat:Int))=some b)):=by
     intro rs;induction rs with
     |nil=>intro _;rfl
     | cons i rs ih=>
       intro h;have hi:i<l.length:=h i (aU ..);have e1:(ByteArray.mk l.toArray)[i]! = l[i]:=getElem!_pos (ByteArray.mk l.toArray) i hi;have e2:((ByteArray.mk l.toArray)[i]! == b.toNat.toUInt8)=decide (((l[i]?).map fun x=>(x.toNat:Int))=some b):=by
         rw[e1,eT hi];have:l[i].toNat<256:=l[i].toNat_lt;have e3:(b.toNat.toUInt8).toNat=b.toNat:=by simp[Nat.toUInt8,UInt8.toNat_ofNat'];omega
         rw[Bool.eq_iff_iff];simp only[beq_iff_eq,aM,tn,ah];constructor;intro h;rw[h,e3];omega;intro h;apply UInt8.toNat_inj.1;rw[e3];omega
       simp only[List.find?_cons,e2];rw[ih fun j hj=>h j (bn _ hj)]
   exact gen _ fun i hi=>wq.1 hi
 rw[e];generalize List.find? _ (List.range l.length)=o;cases o<;>rfl
theorem WY(bs:List UInt8)(b:Int)(w:World)(h0:0<=b)(h1:b<256):(callFunc 178 #[.string ⟨bs.toArray⟩,.int .u8 b]).run PP w = .ok (.value (.int .i64 (idxOf bs b))) w:=by
 rw[run_callFunc_extern Tryz.func178 (by kernel_rfl) (by kernel_rfl) (by kernel_rfl) (e:=Extern.BytealgIndexByte.indexByte) (by kernel_rfl),run_indexByte_string,idx_eq bs b h0 h1];rfl
theorem WZ:Go.Sx.kindOk PP ⟨58,31,128,33,178,[(1,[0,255]),(2,[0,1])]⟩:=fun aR h1 h2 h3 h4 h5=>
 ⟨fun f h=>(by rw[h1]at h;cases h;rw[h3];exact WX),fun f h=>(by rw[h5]at h;cases h;exact WY),fun f h=>(by rw[h2]at h;cases h;rw[h3,h4];exact aaQ)⟩
end
end Go.Proofs.YtohebioanhliiaaGreatDoor.Ov
namespace Go.Proofs.YtohebioanhliiaaGreatDoor.av
section
open Go.Sx Go.RowKit Go
abbrev F7:Int:=18446744073709551616
def Pp(n:Int):Bool:=decide (0<=n)&&decide (n<F7)
def F8:List DV->Option (List DV)
 | [.i n]=>if Pp n then some [.i n]else none
 |_=>none
def Cg:List DV->Option (List DV)
 | [.i x,.i y,.i c]=>if Pp x&&(Pp y&&(decide (0<=c)&&decide (c<=1)))then some [.i ((x+y+c)%F7),.i ((x+y+c)/F7)]else none
 |_=>none
def Ch:List DV->Option (List DV)
 | [.i x,.i y,.i c]=>if Pp x&&(Pp y&&(decide (0<=c)&&decide (c<=1)))then some [.i ((x+F7-y-c)%F7),.i (if x<y+c then 1 else 0)]else none
 |_=>none
def F9(s:bW)(x:List DV->Option (List DV)):dJ:=⟨s,fun ds=>∃rs,kinds (bL s.res) rs=true/\x ds=some rs,fun ds rs=>x ds=some rs,fun _ h=>h⟩
theorem wZ{n:Int}(h:Pp n=true):∃m:Nat,n=m/\m<18446744073709551616:=by
 simp only[Pp,F7,ao,aM]at h;exact⟨n.toNat,by omega,by omega⟩
theorem Ga{u v:Int}{k j:IntKind}:iL [.int k u,.int j v]:=by
 intro a b x y VZ hx hy n hn
 match a with
 |0=>simp at hx;subst hx;simp[Value.ownBlock]at hn
 |1=>simp at hx;subst hx;simp[Value.ownBlock]at hn
 |a+2=>simp at hx
theorem aa4{Wd:World->Prop}:Has PP Wd 243 (F9 Mc Cg):=by
 unfold Has;refine .inr fun w vs ds ha hp=>?_;obtain⟨rs,_,hx⟩:=hp;obtain⟨b8,rfl,hf⟩:=ha;unfold Cg at hx;split at hx;rename_i x y c;split at hx;rename_i hc;simp only[ao,aM]at hc;obtain⟨m,rfl,hm⟩:=wZ hc.1;obtain⟨n,rfl,hn⟩:=wZ hc.2.1;obtain⟨d,rfl⟩:∃d:Nat,c=d:=⟨c.toNat,by omega⟩;cases hx
 match b8,hf with
 | [a,b,e],hf=>
   obtain⟨ha,hb,he,_⟩:=hf;simp only[kX]at ha hb he;subst ha;subst hb;subst he;refine⟨[.int .u64 (((m+n+d)%18446744073709551616:Nat):Int),.int .u64 (((m+n+d)/18446744073709551616:Nat):Int)],[.i (((m:Int)+n+d)%F7),.i (((m:Int)+n+d)/F7)],?_,⟨?_,?_,trivial⟩,Ga,?_⟩;show(callFunc 243 #[.int .u64 m,.int .u64 n,.int .u64 d]).run PP w=_;rw[run_callFunc_extern Tryz.func243 (by kernel_rfl) (by kernel_rfl) (by kernel_rfl) (e:=add64Entry) (by kernel_rfl),run_add64 m n d (by omega) (by omega) (by omega) (by omega)];simp only[Result.andThen];rfl;show Value.int .u64 _=Value.int .u64 _;congr 1;show Value.int .u64 _=Value.int .u64 _;congr 1;show Cg _=_;simp only[Cg];rw[if_pos];simp only[ao,aM];exact hc
 cases hx;cases hx
theorem aa5{Wd:World->Prop}:Has PP Wd 266 (F9 Md Ch):=by
 unfold Has;refine .inr fun w vs ds ha hp=>?_;obtain⟨rs,_,hx⟩:=hp;obtain⟨b8,rfl,hf⟩:=ha;unfold Ch at hx;split at hx;rename_i x y c;split at hx;rename_i hc;simp only[ao,aM]at hc;obtain⟨m,rfl,hm⟩:=wZ hc.1;obtain⟨n,rfl,hn⟩:=wZ hc.2.1;obtain⟨d,rfl⟩:∃d:Nat,c=d:=⟨c.toNat,by omega⟩;cases hx
 match b8,hf with
 | [a,b,e],hf=>
   obtain⟨ha,hb,he,_⟩:=hf;simp only[kX]at ha hb he;subst ha;subst hb;subst he;refine⟨[.int .u64 (((m+18446744073709551616-n-d)%18446744073709551616:Nat):Int),.int .u64 ((if m<n+d then 1 else 0:Nat):Int)],[.i (((m:Int)+F7-n-d)%F7),.i (if(m:Int)<n+d then 1 else 0)],?_,⟨?_,?_,trivial⟩,Ga,?_⟩;show(callFunc 266 #[.int .u64 m,.int .u64 n,.int .u64 d]).run PP w=_;rw[run_callFunc_extern Tryz.func266 (by kernel_rfl) (by kernel_rfl) (by kernel_rfl) (e:=sub64Entry) (by kernel_rfl),run_sub64 m n d (by omega)];rfl;show Value.int .u64 _=Value.int .u64 _;congr 1;unfold F7;omega;show Value.int .u64 _=Value.int .u64 _;congr 1;split<;>split<;>omega;show Ch _=_;simp only[Ch];rw[if_pos];simp only[ao,aM];exact hc
 cases hx;cases hx
theorem aa6{Wd:World->Prop}:Has PP Wd 140 (F9 Me F8):=by
 unfold Has;refine .inr fun w vs ds ha hp=>?_;obtain⟨rs,_,hx⟩:=hp;obtain⟨b8,rfl,hf⟩:=ha;unfold F8 at hx;split at hx;rename_i n;split at hx;rename_i hc;cases hx
 match b8,hf with
 | [a],hf=>
   obtain⟨ha,_⟩:=hf;simp only[kX]at ha;subst ha;refine⟨[.float .f64 n.toNat],[.i n],?_,⟨rfl,trivial⟩,?_,?_⟩;show(callFunc 140 #[.int .u64 n]).run PP w=_;rw[run_callFunc_extern Tryz.func140 (by kernel_rfl) (by kernel_rfl) (by kernel_rfl) (e:=Extern.MathFloatBits.float64frombits) (by kernel_rfl)];rfl;intro a b x y VZ hx hy k hk
   match a with
   |0=>simp at hx;subst hx;simp[Value.ownBlock]at hk
   |a+1=>simp at hx
   show F8 _=_;simp only[F8,hc,if_true]
 cases hx;cases hx
end
section
open Go.Sx Go.RowKit Go Go.Shelf
def ren:Ren:=⟨fun x=>if x=129 then 283 else x,fun x=>if x=46 then 198 else if x=53 then 232 else x,fun x=>x⟩
theorem SO:Lays.n129 PP ren where
 mixed:=by kernel_rfl
 f129:=by kernel_rfl
 t3:=by kernel_rfl
 a3:=fun w=>by kernel_rfl
 z3:=fun w=>by kernel_rfl
 v3:=fun w=>by kernel_rfl
 t4:=by kernel_rfl
 a4:=fun w=>by kernel_rfl
 z4:=fun w=>by kernel_rfl
 v4:=fun w=>by kernel_rfl
 t5:=by kernel_rfl
 a5:=fun w=>by kernel_rfl
 z5:=fun w=>by kernel_rfl
 v5:=fun w=>by kernel_rfl
 t9:=by kernel_rfl
 a9:=fun w=>by kernel_rfl
 z9:=fun w=>by kernel_rfl
 v9:=fun w=>by kernel_rfl
 t46:=by kernel_rfl
 a46:=fun w=>by kernel_rfl
 z46:=fun w=>by kernel_rfl
 v46:=fun w=>by kernel_rfl
 t53:=by kernel_rfl
 a53:=fun w=>by kernel_rfl
 z53:=fun w=>by kernel_rfl
 v53:=fun w=>by kernel_rfl
def zh:List DV->Option (List DV)
 | [.i n]=>if Pp n then some [.i (Lib.bitLen n.toNat)]else none
 |_=>none
theorem abW{Wd:World->Prop}:Has PP Wd 283 (F9 MC zh):=by
 unfold Has;refine .inl ⟨fun w args=>dT Tryz.func283 rfl rfl w args,fun w vs ds hw ha hp=>?_⟩;obtain⟨rs,_,hx⟩:=hp;obtain⟨b8,rfl,hf⟩:=ha;unfold zh at hx;split at hx;rename_i n;split at hx;rename_i hc;cases hx
 match b8,hf with
 | [a],hf=>
   obtain⟨ha,_⟩:=hf;simp only[kX]at ha;subst ha;obtain⟨m,rfl,hm⟩:=wZ hc;refine(Any.bits_Len64 SO (m:Int) w (by omega) (by omega)).mono ?_;rintro e w' ⟨rfl,rfl⟩;refine⟨[.int .i64 (Lib.bitLen (m:Int).toNat)],[.i (Lib.bitLen (m:Int).toNat)],rfl,Below.refl _ _,⟨rfl,trivial⟩,?_,?_⟩;intro a b x y VZ hx hy k hk
   match a with
   |0=>simp at hx;subst hx;simp[Value.ownBlock]at hk
   |a+1=>simp at hx
   show zh _=_;simp only[zh,hc,if_true]
 cases hx;cases hx
end
section
open Go.Sx
variable {X:bY}
theorem su{n:Int}(h:0<=n/\n<=18446744073709551615):Pp n=true:=by
 simp only[Pp,F7,ao,aM];omega
theorem aeg:mO PP lG 140=none:=by kernel_rfl
theorem Y9:mO PP lG 243=none:=by kernel_rfl
theorem Y':mO PP lG 266=none:=by kernel_rfl
theorem Y8:mO PP lG 283=none:=by kernel_rfl
theorem aiZ:kc 140=⟨[.i 0 18446744073709551615],[],[.i 0 18446744073709551615],[]⟩:=by kernel_rfl
theorem ai0:kc 243=⟨[.i 0 18446744073709551615,.i 0 18446744073709551615,.i 0 1],[],[.i 0 18446744073709551615,.i 0 1],[]⟩:=by kernel_rfl
theorem ai1:kc 266=⟨[.i 0 18446744073709551615,.i 0 18446744073709551615,.i 0 1],[],[.i 0 18446744073709551615,.i 0 1],[]⟩:=by kernel_rfl
theorem ai2:kc 283=⟨[.i 0 18446744073709551615],[],[.i 0 64],[]⟩:=by kernel_rfl
theorem ai3(hX:X 140=F8):vy (mO PP lG) X 140 (kc 140).jA (kc 140).lh:=by
 rw[aiZ];rintro ds ⟨ha,_⟩
 match ds,ha with
 | [.i n],ha=>
   have hn:0<=n/\n<=18446744073709551615:=ha.1;exact⟨[.i n],jy aeg (by rw[hX];simp only[F8,su hn,if_true]),⟨hn,trivial⟩,fun p hp=>(by cases hp)⟩
theorem ai4(hX:X 243=Cg):vy (mO PP lG) X 243 (kc 243).jA (kc 243).lh:=by
 rw[ai0];rintro ds ⟨ha,_⟩
 match ds,ha with
 | [.i x,.i y,.i c],ha=>
   have hx:0<=x/\x<=18446744073709551615:=ha.1;have hy:0<=y/\y<=18446744073709551615:=ha.2.1;have hc:0<=c/\c<=1:=ha.2.2.1;refine⟨[.i ((x+y+c)%F7),.i ((x+y+c)/F7)],jy Y9 ?_,⟨?_,?_,trivial⟩,fun p hp=>(by cases hp)⟩;rw[hX];simp only[Cg,su hx,su hy,Bool.true_and];rw[if_pos];simp only[ao,aM];exact hc;show 0<=_/\_<=_;unfold F7;omega;show 0<=_/\_<=_;unfold F7;omega
theorem ai5(hX:X 266=Ch):vy (mO PP lG) X 266 (kc 266).jA (kc 266).lh:=by
 rw[ai1];rintro ds ⟨ha,_⟩
 match ds,ha with
 | [.i x,.i y,.i c],ha=>
   have hx:0<=x/\x<=18446744073709551615:=ha.1;have hy:0<=y/\y<=18446744073709551615:=ha.2.1;have hc:0<=c/\c<=1:=ha.2.2.1;refine⟨[.i ((x+F7-y-c)%F7),.i (if x<y+c then 1 else 0)],jy Y' ?_,⟨?_,?_,trivial⟩,fun p hp=>(by cases hp)⟩;rw[hX];simp only[Ch,su hx,su hy,Bool.true_and];rw[if_pos];simp only[ao,aM];exact hc;show 0<=_/\_<=_;unfold F7;omega;show 0<=(if x<y+c then(1:Int)else 0)/\(if x<y+c then(1:Int)else 0)<=1;split<;>omega
theorem aa7:∀(f x:Nat),Lib.bitLenAux f x<=f:=by
 intro f;induction f with
 |zero=>intro x;simp[Lib.bitLenAux]
 | succ f ih=>
   intro x;unfold Lib.bitLenAux;split;omega;have:=ih (x/2);omega
theorem aeh(m:Nat):Lib.bitLen m<=64:=aa7 64 m
theorem ai6(hX:X 283=zh):vy (mO PP lG) X 283 (kc 283).jA (kc 283).lh:=by
 rw[ai2];rintro ds ⟨ha,_⟩
 match ds,ha with
 | [.i n],ha=>
   have hn:0<=n/\n<=18446744073709551615:=ha.1;refine⟨[.i (Lib.bitLen n.toNat)],jy Y8 (by rw[hX];simp only[zh,su hn,if_true]),⟨?_,trivial⟩,fun p hp=>(by cases hp)⟩;have:=aeh n.toNat;show 0<=_/\_<=_;omega
end
section
open Go.Sx Go.RowKit Go
def Wd(w:World):Prop:=∀p∈kd.zN,∃T z,w.heap[p.1]?=some (.cells (p.2.map fun n=>Value.int .i64 n).toArray T z)
abbrev TT(P:Program):Nat->Option ir:=mO P lG
abbrev Xd(k:Nat):Bool:=xs.any (Nat.beq k)
theorem CI(w w':World)(h:Wd w)(hb:Below w.heap.size w w'):Wd w':=by
 intro p hp;obtain⟨T,z,e⟩:=h p hp;have cu:p.1<w.heap.size:=by
   rcases qK p.1 w.heap.size with h1|h1;exact h1;rw[Array.getElem?_eq_none h1]at e;cases e
 exact⟨T,z,by rw[hb.block p.1 cu];exact e⟩
def gF:Prop:=∀k r,lN k lG=some r->On PP kd qX lG xs k r=true/\(gV PP r).nB (bL r.s.res)=true
theorem ac6{X:bY}(hr:gF)(hx:∀k,Xd k=true->∀s,qX k=some s->Has PP Wd k (F9 s (X k)))(hk:∀k s,Xd k=true->qX k=some s->∀ds rs,X k ds=some rs->kinds (bL s.res) rs=true)(hn:∀k ds,Xd k=false->X k ds=none):BU PP Wd (TT PP) X Xd qX where
 stays:=CI
 ent:=fun k e he=>by
   unfold TT mO at he;split at he;rename_i r hl;cases he;obtain⟨h1,h2⟩:=hr k r hl;exact aaE Ov.WZ (fun w hw g cs hg=>hw (g,cs) hg) h1 h2;cases he
 adJ:=fun k s ht hs ds rs h=>by
   cases hd:Xd k with
   |true=>exact hk k s hd hs ds rs h
   |false=>rw[hn k ds hd]at h;cases h
 ext:=fun k s ht hd hs=>hx k hd s hs
 non:=hn
end
end Go.Proofs.YtohebioanhliiaaGreatDoor.av
