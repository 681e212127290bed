/- What the table leaves to others: giving up, and functions that are stood in for. -/
import Derived.Test.YtohebioanhliiaaGreatDoorBA4
import Derived.Test.YtohebioanhliiaaGreatDoorBAK
import Derived.Test.YtohebioanhliiaaGreatDoorBB1
import Derived.Test.YtohebioanhliiaaGreatDoorChecked
import Derived.WalkKit
import Derived.WalkSpells
import Derived.WalkLawsBesides
import Derived.Defers
import Derived.Recover
import Derived.Laws.Externs
import Derived.Shelf.Spec.BitsCarry
import Derived.Shelf.Strconv.Itoa0
set_option maxRecDepth 20000
set_option linter.unusedVariables false
set_option linter.unusedSimpArgs false
namespace Go.Proofs.YtohebioanhliiaaGreatDoor.Kx
section
open Go.RowKit Go
def given(c:Int):PanicEntry:={v:=.iface 128 (.agg #[.int .i64 c]),recovered:=false}
theorem Ky(c:Int)(w:World):Calls Tryz.prog 58 #[.bool true,.int .i64 c] w fun e w'=>e = .returned (.tuple #[])/\w'=w:=by
 have VL:∀(x:Bool) (w:World),(Op.unary .not (.bool x)).run Tryz.prog w = .ok (.bool (!x)) w:=fun _ _=>rfl;go_enter Tryz.func58,Tryz.ntmps58
 go_wp2
 go_end0
 exact⟨rfl,rfl⟩
theorem GU(c:Int)(w:World):Calls Tryz.prog 58 #[.bool false,.int .i64 c] w fun e w'=>e = .panicked [given c]/\w'=w:=by
 have VL:∀(x:Bool) (w:World),(Op.unary .not (.bool x)).run Tryz.prog w = .ok (.bool (!x)) w:=fun _ _=>rfl;go_enter Tryz.func58,Tryz.ntmps58
 go_wp2
 exact⟨rfl,rfl,rfl,rfl⟩
theorem zr{w:World}{p:Addr}{v:Value}(h:w.cell? p=some v):p.block<w.heap.size:=by
 rcases Nat.lt_or_ge p.block w.heap.size with h1|h1;exact h1;have:w.heap[p.block]?=none:=Array.getElem?_eq_none h1;simp[World.cell?,this]at h
theorem xx(p:Addr)(x c:Int)(UE:List PanicEntry)(w:World)(hc:w.cell? p=some (.int .i64 x))(hz:w.frozen? p=false) :
   CallsD Tryz.prog 48 #[.pointer (some p)] (.panicking (given c::UE)) w fun e u' w'=>
     e = .returned (.tuple #[])/\u' = .panicking ({given c with recovered:=true}::UE)/\w'=(w.alloc (.cells #[.int .i64 c] 128)).setCell p (.int .i64 c):=by
 refine callsD_of_wpS Tryz.func48 rfl fun W0 cs hu=>?_;apply wpS_seq;apply wpS_region;simp[wpOpsS,go_sem,recoverD,hu,Tryz.ntmps48,Exit.thenS,given];refine wpS_of_wp ?_;have hta:∀(w:World),(Instr.typeAssert (.iface 128 (.agg #[.int .i64 c])) 20 128 true).run Tryz.prog w = .ok (.tuple #[.agg #[.int .i64 c],.bool true]) w:=fun _=>rfl;have cF:p.block<w.heap.size:=zr hc;have lu:∀o,(w.alloc o).cell? p=some (.int .i64 x):=fun o=>by rw[World.cell?_alloc_old (h:=by omega)];exact hc
 have hz2:∀o,(w.alloc o).frozen? p=false:=fun o=>by rw[World.frozen?_alloc_old (h:=by omega)];exact hz
 change Code.wp _ _ _ {tmps:=#[.pointer (some p),undef,undef,undef,.iface 128 (.agg #[.int .i64 c]),undef,undef,undef,undef,undef,undef,undef],defers:=[] } w
 go_wp2
 cases W0;simp_all[bodyPostS,results,Tryz.results48]
theorem GV(p:Addr)(w:World) :
   CallsD Tryz.prog 48 #[.pointer (some p)] .returning w fun e u' w'=>e = .returned (.tuple #[])/\u' = .returning/\w'=w:=by
 refine callsD_of_wpS Tryz.func48 rfl fun W0 cs hu=>?_;apply wpS_seq;apply wpS_region;simp[wpOpsS,go_sem,recoverD,hu,Tryz.ntmps48,Exit.thenS,given];refine wpS_of_wp ?_;change Code.wp _ _ _ {tmps:=#[.pointer (some p),undef,undef,undef,.nilIface,undef,undef,undef,undef,undef,undef,undef],defers:=[] } w
 go_wp2
 cases W0;simp_all[bodyPostS,results,Tryz.results48]
theorem SR{cl:FuncId}{cS:Array Value}{w:World}{P0:World->Prop}{P1:Int->World->Prop}
   (cd:∀w,(callFunc cl cS).run Tryz.prog w = .ok (.enter cl cS) w)
   (hc:Calls Tryz.prog cl cS (w.alloc (.cells #[.int .i64 0] 33)) fun e w2=>
     (w2.cell? ⟨w.heap.size,0,none⟩=some (.int .i64 0)/\w2.frozen? ⟨w.heap.size,0,none⟩=false)/\((e = .returned (.tuple #[])/\P0 w2)\/∃c,e = .panicked [given c]/\P1 c w2)) :
   Calls Tryz.prog 31 #[.func (.func cl) #[] cS] w fun e w'=>∃w2,(e = .returned (.int .i64 0)/\P0 w2/\w'=w2.setCell ⟨w.heap.size,0,none⟩ (.int .i64 0))\/∃c,e = .returned (.int .i64 c)/\P1 c w2/\w'=(w2.alloc (.cells #[.int .i64 c] 128)).setCell ⟨w.heap.size,0,none⟩ (.int .i64 c):=by
 have hmf:∀(fn:Fn) (first cap:Array Value) (w:World),(Instr.makeFunc fn first cap).run Tryz.prog w = .ok (.func fn first cap) w:=fun _ _ _ _=>rfl
 go_enter_defers Tryz.func31,Tryz.ntmps31
 go_wp2
 refine hc.mono ?_;rintro e w2 ⟨⟨la,Jz⟩,(⟨rfl,hP⟩|⟨c,rfl,hP⟩)⟩
 . go_wp2
   refine leaves_cons (f:=48) (args:=#[.pointer (some ⟨w.heap.size,0,none⟩)]) (by simp) (by simp[go_sem]) ?_;refine(GV ⟨w.heap.size,0,none⟩ _).mono ?_;rintro e u' w'' ⟨rfl,rfl,rfl⟩;refine⟨.int .i64 0,?_,w2,.inl ⟨rfl,hP,rfl⟩⟩;simp[results,Tryz.results31,go_sem,la]
 . refine leaves_cons (f:=48) (args:=#[.pointer (some ⟨w.heap.size,0,none⟩)]) (by simp) (by simp[go_sem]) ?_;refine(xx ⟨w.heap.size,0,none⟩ 0 c [] _ la Jz).mono ?_;rintro e u' w'' ⟨rfl,rfl,rfl⟩;have cF:=zr la;simp only at cF;have lu:(w2.alloc (.cells #[.int .i64 c] 128)).cell? ⟨w.heap.size,0,none⟩=some (.int .i64 0):=by rw[World.cell?_alloc_past _ _ _ cF];exact la
   refine⟨.int .i64 c,?_,w2,.inr ⟨c,rfl,hP,rfl⟩⟩;simp[results,Tryz.results31,go_sem,lu]
end
section
open Go.Sx Go.RowKit Go
theorem enters{f:FuncId}{fn:Func}{c:Code}(hf:Tryz.prog.funcs[f]?=some fn)(hb:fn.body=some c)(hn:(fn.name == "runtime.NumGoroutine")=false)(w:World)(args:Array Value):(callFunc f args).run Tryz.prog w = .ok (.enter f args) w:=da hf hb hn w args
theorem SS:(∀w args,(callFunc 58 args).run Tryz.prog w = .ok (.enter 58 args) w)/\∀ok c w,Calls Tryz.prog 58 #[.bool ok,.int .i64 c] w (fun e w'=>w'=w/\((ok=true/\e = .returned (.tuple #[]))\/(ok=false/\e = .panicked [eJ 128 c]))):=by
 refine⟨enters Tryz.func58 rfl rfl,fun ok c w=>?_⟩;cases ok;exact(GU c w).mono fun e w' h=>⟨h.2,.inr ⟨rfl,h.1⟩⟩;exact(Ky c w).mono fun e w' h=>⟨h.2,.inl ⟨rfl,h.1⟩⟩
theorem W4:(∀w args,(callFunc 31 args).run Tryz.prog w = .ok (.enter 31 args) w)/\∀cl cS w (A:World->Prop) (B:Int->World->Prop),(∀w,(callFunc cl cS).run Tryz.prog w = .ok (.enter cl cS) w)->
   Calls Tryz.prog cl cS (w.alloc (.cells #[.int .i64 0] 33)) (fun e w2=>w2.heap[w.heap.size]?=some (.cells #[.int .i64 0] 33 (0,0))/\((e = .returned (.tuple #[])/\A w2)\/∃c,e = .panicked [eJ 128 c]/\B c w2))->
   Calls Tryz.prog 31 #[.func (.func cl) #[] cS] w (fun e w'=>∃w2,(e = .returned (.int .i64 0)/\A w2/\w'=w2.setCell ⟨w.heap.size,0,none⟩ (.int .i64 0))\/∃c,e = .returned (.int .i64 c)/\B c w2/\w'=(w2.alloc (.cells #[.int .i64 c] 128)).setCell ⟨w.heap.size,0,none⟩ (.int .i64 c)):=by
 refine⟨enters Tryz.func31 rfl rfl,fun cl cS w A B cd hc=>?_⟩;refine SR (P0:=A) (P1:=B) cd (hc.mono fun e w2 h=>⟨⟨?_,?_⟩,h.2⟩);simp[World.cell?,h.1];simp[World.frozen?,h.1]
end
section
open Go.Sx Go.RowKit Go
theorem idx_eq(l:List UInt8)(b:Int)(h0:0<=b)(h1:b<256):firstIdx (ByteArray.mk l.toArray) b.toNat.toUInt8=idxOf l b:=by
 unfold firstIdx idxOf;have e:(List.range (ByteArray.mk l.toArray).size).find? (fun i=>(ByteArray.mk l.toArray)[i]! == b.toNat.toUInt8)=(List.range l.length).find? (fun i=>decide (((l[i]?).map fun x=>(x.toNat:Int))=some b)):=by
   show(List.range l.length).find? _=_;have gen:∀rs:List Nat,(∀i∈rs,i<l.length)->rs.find? (fun i=>(ByteArray.mk l.toArray)[i]! == b.toNat.toUInt8)=rs.find? (fun i=>decide (((l[i]?).map fun x=>(x.toNat:Int))=some b)):=by
     intro rs;induction rs with
     |nil=>intro _;rfl
     | cons i rs ih=>
       intro h;have hi:i<l.length:=h i (aM ..);have e1:(ByteArray.mk l.toArray)[i]! = l[i]:=getElem!_pos (ByteArray.mk l.toArray) i hi;have e2:((ByteArray.mk l.toArray)[i]! == b.toNat.toUInt8)=decide (((l[i]?).map fun x=>(x.toNat:Int))=some b):=by
         rw[e1,fV hi];have:l[i].toNat<256:=l[i].toNat_lt;have e3:(b.toNat.toUInt8).toNat=b.toNat:=by simp[Nat.toUInt8,UInt8.toNat_ofNat'];omega
         rw[Bool.eq_iff_iff];simp only[beq_iff_eq,aD,sG,af];constructor;intro h;rw[h,e3];omega;intro h;apply UInt8.toNat_inj.1;rw[e3];omega
       simp only[List.find?_cons,e2];rw[ih fun j hj=>h j (aZ _ hj)]
   exact gen _ fun i hi=>ui.1 hi
 rw[e];generalize List.find? _ (List.range l.length)=o;cases o<;>rfl
theorem SU(bs:List UInt8)(b:Int)(w:World)(h0:0<=b)(h1:b<256):(callFunc 178 #[.string ⟨bs.toArray⟩,.int .u8 b]).run Tryz.prog w = .ok (.value (.int .i64 (idxOf bs b))) w:=by
 rw[run_callFunc_extern Tryz.func178 (by kernel_rfl) (by kernel_rfl) (by kernel_rfl) (e:=Extern.BytealgIndexByte.indexByte) (by kernel_rfl),run_indexByte_string,idx_eq bs b h0 h1];rfl
theorem SW:Go.Sx.kindOk Tryz.prog ⟨58,31,128,33,178,[(1,[0,255]),(2,[0,1])]⟩:=fun aK h1 h2 h3 h4 h5=>
 ⟨fun f h=>(by rw[h1]at h;cases h;rw[h3];exact SS),fun f h=>(by rw[h5]at h;cases h;exact SU),fun f h=>(by rw[h2]at h;cases h;rw[h3,h4];exact W4)⟩
end
end Go.Proofs.YtohebioanhliiaaGreatDoor.Kx
namespace Go.Proofs.YtohebioanhliiaaGreatDoor.aw
section
open Go.Sx Go.RowKit Go
abbrev Dg:Int:=18446744073709551616
def Ls(n:Int):Bool:=decide (0<=n)&&decide (n<Dg)
def Dh:List DV->Option (List DV)
 | [.i n]=>if Ls n then some [.i n]else none
 |_=>none
def Di:List DV->Option (List DV)
 | [.i x,.i y,.i c]=>if Ls x&&(Ls y&&(decide (0<=c)&&decide (c<=1)))then some [.i ((x+y+c)%Dg),.i ((x+y+c)/Dg)]else none
 |_=>none
def Dj:List DV->Option (List DV)
 | [.i x,.i y,.i c]=>if Ls x&&(Ls y&&(decide (0<=c)&&decide (c<=1)))then some [.i ((x+Dg-y-c)%Dg),.i (if x<y+c then 1 else 0)]else none
 |_=>none
def Dk(s:bJ)(x:List DV->Option (List DV)):cL:=⟨s,fun ds=>∃rs,kinds (bt s.res) rs=true/\x ds=some rs,fun ds rs=>x ds=some rs,fun _ h=>h⟩
theorem tN{n:Int}(h:Ls n=true):∃m:Nat,n=m/\m<18446744073709551616:=by
 simp only[Ls,Dg,ah,aD]at h;exact⟨n.toNat,by omega,by omega⟩
theorem Dl{u v:Int}{k j:IntKind}:fM [.int k u,.int j v]:=by
 intro a b x y hab hx hy n hn
 match a with
 |0=>simp at hx;subst hx;simp[Value.ownBlock]at hn
 |1=>simp at hx;subst hx;simp[Value.ownBlock]at hn
 |a+2=>simp at hx
theorem XS{Wd:World->Prop}:Has Tryz.prog Wd 243 (Dk ID Di):=by
 unfold Has;refine .inr fun w vs ds ha hp=>?_;obtain⟨rs,_,hx⟩:=hp;obtain⟨bL,rfl,hf⟩:=ha;unfold Di at hx;split at hx;rename_i x y c;split at hx;rename_i hc;simp only[ah,aD]at hc;obtain⟨m,rfl,hm⟩:=tN hc.1;obtain⟨n,rfl,hn⟩:=tN hc.2.1;obtain⟨d,rfl⟩:∃d:Nat,c=d:=⟨c.toNat,by omega⟩;cases hx
 match bL,hf with
 | [a,b,e],hf=>
   obtain⟨ha,hb,he,_⟩:=hf;simp only[jE]at ha hb he;subst ha;subst hb;subst he;refine⟨[.int .u64 (((m+n+d)%18446744073709551616:Nat):Int),.int .u64 (((m+n+d)/18446744073709551616:Nat):Int)],[.i (((m:Int)+n+d)%Dg),.i (((m:Int)+n+d)/Dg)],?_,⟨?_,?_,trivial⟩,Dl,?_⟩;show(callFunc 243 #[.int .u64 m,.int .u64 n,.int .u64 d]).run Tryz.prog w=_;rw[run_callFunc_extern Tryz.func243 (by kernel_rfl) (by kernel_rfl) (by kernel_rfl) (e:=add64Entry) (by kernel_rfl),run_add64 m n d (by omega) (by omega) (by omega) (by omega)];simp only[Result.andThen];rfl;show Value.int .u64 _=Value.int .u64 _;congr 1;show Value.int .u64 _=Value.int .u64 _;congr 1;show Di _=_;simp only[Di];rw[if_pos];simp only[ah,aD];exact hc
 cases hx;cases hx
theorem XT{Wd:World->Prop}:Has Tryz.prog Wd 266 (Dk IF Dj):=by
 unfold Has;refine .inr fun w vs ds ha hp=>?_;obtain⟨rs,_,hx⟩:=hp;obtain⟨bL,rfl,hf⟩:=ha;unfold Dj at hx;split at hx;rename_i x y c;split at hx;rename_i hc;simp only[ah,aD]at hc;obtain⟨m,rfl,hm⟩:=tN hc.1;obtain⟨n,rfl,hn⟩:=tN hc.2.1;obtain⟨d,rfl⟩:∃d:Nat,c=d:=⟨c.toNat,by omega⟩;cases hx
 match bL,hf with
 | [a,b,e],hf=>
   obtain⟨ha,hb,he,_⟩:=hf;simp only[jE]at ha hb he;subst ha;subst hb;subst he;refine⟨[.int .u64 (((m+18446744073709551616-n-d)%18446744073709551616:Nat):Int),.int .u64 ((if m<n+d then 1 else 0:Nat):Int)],[.i (((m:Int)+Dg-n-d)%Dg),.i (if(m:Int)<n+d then 1 else 0)],?_,⟨?_,?_,trivial⟩,Dl,?_⟩;show(callFunc 266 #[.int .u64 m,.int .u64 n,.int .u64 d]).run Tryz.prog w=_;rw[run_callFunc_extern Tryz.func266 (by kernel_rfl) (by kernel_rfl) (by kernel_rfl) (e:=sub64Entry) (by kernel_rfl),run_sub64 m n d (by omega)];rfl;show Value.int .u64 _=Value.int .u64 _;congr 1;unfold Dg;omega;show Value.int .u64 _=Value.int .u64 _;congr 1;split<;>split<;>omega;show Dj _=_;simp only[Dj];rw[if_pos];simp only[ah,aD];exact hc
 cases hx;cases hx
theorem XU{Wd:World->Prop}:Has Tryz.prog Wd 140 (Dk IG Dh):=by
 unfold Has;refine .inr fun w vs ds ha hp=>?_;obtain⟨rs,_,hx⟩:=hp;obtain⟨bL,rfl,hf⟩:=ha;unfold Dh at hx;split at hx;rename_i n;split at hx;rename_i hc;cases hx
 match bL,hf with
 | [a],hf=>
   obtain⟨ha,_⟩:=hf;simp only[jE]at ha;subst ha;refine⟨[.float .f64 n.toNat],[.i n],?_,⟨rfl,trivial⟩,?_,?_⟩;show(callFunc 140 #[.int .u64 n]).run Tryz.prog w=_;rw[run_callFunc_extern Tryz.func140 (by kernel_rfl) (by kernel_rfl) (by kernel_rfl) (e:=Extern.MathFloatBits.float64frombits) (by kernel_rfl)];rfl;intro a b x y hab hx hy k hk
   match a with
   |0=>simp at hx;subst hx;simp[Value.ownBlock]at hk
   |a+1=>simp at hx
   show Dh _=_;simp only[Dh,hc,if_true]
 cases hx;cases hx
end
section
open Go.Sx Go.RowKit Go Go.Shelf
def ren:Ren:=⟨fun x=>if x=129 then 283 else x,fun x=>if x=46 then 198 else if x=53 then 232 else x,fun x=>x⟩
theorem Oz:Lays.n129 Tryz.prog ren where
 mixed:=by kernel_rfl
 f129:=by kernel_rfl
 t3:=by kernel_rfl
 a3:=fun w=>by kernel_rfl
 z3:=fun w=>by kernel_rfl
 v3:=fun w=>by kernel_rfl
 t4:=by kernel_rfl
 a4:=fun w=>by kernel_rfl
 z4:=fun w=>by kernel_rfl
 v4:=fun w=>by kernel_rfl
 t5:=by kernel_rfl
 a5:=fun w=>by kernel_rfl
 z5:=fun w=>by kernel_rfl
 v5:=fun w=>by kernel_rfl
 t9:=by kernel_rfl
 a9:=fun w=>by kernel_rfl
 z9:=fun w=>by kernel_rfl
 v9:=fun w=>by kernel_rfl
 t46:=by kernel_rfl
 a46:=fun w=>by kernel_rfl
 z46:=fun w=>by kernel_rfl
 v46:=fun w=>by kernel_rfl
 t53:=by kernel_rfl
 a53:=fun w=>by kernel_rfl
 z53:=fun w=>by kernel_rfl
 v53:=fun w=>by kernel_rfl
def vU:List DV->Option (List DV)
 | [.i n]=>if Ls n then some [.i (Lib.bitLen n.toNat)]else none
 |_=>none
theorem Yf{Wd:World->Prop}:Has Tryz.prog Wd 283 (Dk IV vU):=by
 unfold Has;refine .inl ⟨fun w args=>da Tryz.func283 rfl rfl w args,fun w vs ds hw ha hp=>?_⟩;obtain⟨rs,_,hx⟩:=hp;obtain⟨bL,rfl,hf⟩:=ha;unfold vU at hx;split at hx;rename_i n;split at hx;rename_i hc;cases hx
 match bL,hf with
 | [a],hf=>
   obtain⟨ha,_⟩:=hf;simp only[jE]at ha;subst ha;obtain⟨m,rfl,hm⟩:=tN hc;refine(Any.bits_Len64 Oz (m:Int) w (by omega) (by omega)).mono ?_;rintro e w' ⟨rfl,rfl⟩;refine⟨[.int .i64 (Lib.bitLen (m:Int).toNat)],[.i (Lib.bitLen (m:Int).toNat)],rfl,Below.refl _ _,⟨rfl,trivial⟩,?_,?_⟩;intro a b x y hab hx hy k hk
   match a with
   |0=>simp at hx;subst hx;simp[Value.ownBlock]at hk
   |a+1=>simp at hx
   show vU _=_;simp only[vU,hc,if_true]
 cases hx;cases hx
end
section
open Go.Sx
variable {X:bD}
theorem pU{n:Int}(h:0<=n/\n<=18446744073709551615):Ls n=true:=by
 simp only[Ls,Dg,ah,aD];omega
theorem ach:lO Tryz.prog jZ 140=none:=by kernel_rfl
theorem aci:lO Tryz.prog jZ 243=none:=by kernel_rfl
theorem acj:lO Tryz.prog jZ 266=none:=by kernel_rfl
theorem UY:lO Tryz.prog jZ 283=none:=by kernel_rfl
theorem ahr:kc 140=⟨[.i 0 18446744073709551615],[],[.i 0 18446744073709551615],[]⟩:=by kernel_rfl
theorem ahs:kc 243=⟨[.i 0 18446744073709551615,.i 0 18446744073709551615,.i 0 1],[],[.i 0 18446744073709551615,.i 0 1],[]⟩:=by kernel_rfl
theorem aht:kc 266=⟨[.i 0 18446744073709551615,.i 0 18446744073709551615,.i 0 1],[],[.i 0 18446744073709551615,.i 0 1],[]⟩:=by kernel_rfl
theorem ahu:kc 283=⟨[.i 0 18446744073709551615],[],[.i 0 64],[]⟩:=by kernel_rfl
theorem ahv(hX:X 140=Dh):qn (lO Tryz.prog jZ) X 140 (kc 140).fQ (kc 140).iA:=by
 rw[ahr];rintro ds ⟨ha,_⟩
 match ds,ha with
 | [.i n],ha=>
   have hn:0<=n/\n<=18446744073709551615:=ha.1;exact⟨[.i n],im ach (by rw[hX];simp only[Dh,pU hn,if_true]),⟨hn,trivial⟩,fun p hp=>(by cases hp)⟩
theorem ahw(hX:X 243=Di):qn (lO Tryz.prog jZ) X 243 (kc 243).fQ (kc 243).iA:=by
 rw[ahs];rintro ds ⟨ha,_⟩
 match ds,ha with
 | [.i x,.i y,.i c],ha=>
   have hx:0<=x/\x<=18446744073709551615:=ha.1;have hy:0<=y/\y<=18446744073709551615:=ha.2.1;have hc:0<=c/\c<=1:=ha.2.2.1;refine⟨[.i ((x+y+c)%Dg),.i ((x+y+c)/Dg)],im aci ?_,⟨?_,?_,trivial⟩,fun p hp=>(by cases hp)⟩;rw[hX];simp only[Di,pU hx,pU hy,Bool.true_and];rw[if_pos];simp only[ah,aD];exact hc;show 0<=_/\_<=_;unfold Dg;omega;show 0<=_/\_<=_;unfold Dg;omega
theorem ahx(hX:X 266=Dj):qn (lO Tryz.prog jZ) X 266 (kc 266).fQ (kc 266).iA:=by
 rw[aht];rintro ds ⟨ha,_⟩
 match ds,ha with
 | [.i x,.i y,.i c],ha=>
   have hx:0<=x/\x<=18446744073709551615:=ha.1;have hy:0<=y/\y<=18446744073709551615:=ha.2.1;have hc:0<=c/\c<=1:=ha.2.2.1;refine⟨[.i ((x+Dg-y-c)%Dg),.i (if x<y+c then 1 else 0)],im acj ?_,⟨?_,?_,trivial⟩,fun p hp=>(by cases hp)⟩;rw[hX];simp only[Dj,pU hx,pU hy,Bool.true_and];rw[if_pos];simp only[ah,aD];exact hc;show 0<=_/\_<=_;unfold Dg;omega;show 0<=(if x<y+c then(1:Int)else 0)/\(if x<y+c then(1:Int)else 0)<=1;split<;>omega
theorem XV:∀(f x:Nat),Lib.bitLenAux f x<=f:=by
 intro f;induction f with
 |zero=>intro x;simp[Lib.bitLenAux]
 | succ f ih=>
   intro x;unfold Lib.bitLenAux;split;omega;have:=ih (x/2);omega
theorem ack(m:Nat):Lib.bitLen m<=64:=XV 64 m
theorem ahy(hX:X 283=vU):qn (lO Tryz.prog jZ) X 283 (kc 283).fQ (kc 283).iA:=by
 rw[ahu];rintro ds ⟨ha,_⟩
 match ds,ha with
 | [.i n],ha=>
   have hn:0<=n/\n<=18446744073709551615:=ha.1;refine⟨[.i (Lib.bitLen n.toNat)],im UY (by rw[hX];simp only[vU,pU hn,if_true]),⟨?_,trivial⟩,fun p hp=>(by cases hp)⟩;have:=ack n.toNat;show 0<=_/\_<=_;omega
end
section
open Go.Sx Go.RowKit Go
def Wd(w:World):Prop:=∀p∈kd.wE,∃T z,w.heap[p.1]?=some (.cells (p.2.map fun n=>Value.int .i64 n).toArray T z)
abbrev TT(P:Program):Nat->Option gb:=lO P jZ
abbrev Xd(k:Nat):Bool:=xs.any (Nat.beq k)
theorem zS(w w':World)(h:Wd w)(hb:Below w.heap.size w w'):Wd w':=by
 intro p hp;obtain⟨T,z,e⟩:=h p hp;have cF:p.1<w.heap.size:=by
   rcases pf p.1 w.heap.size with h1|h1;exact h1;rw[Array.getElem?_eq_none h1]at e;cases e
 exact⟨T,z,by rw[hb.block p.1 cF];exact e⟩
def fv:Prop:=∀k r,j6 k jZ=some r->Kt Tryz.prog kd qp jZ xs k r=true/\(gC Tryz.prog r).lJ (bt r.s.res)=true
theorem Zt{X:bD}(hr:fv)(hx:∀k,Xd k=true->∀s,qp k=some s->Has Tryz.prog Wd k (Dk s (X k)))(hk:∀k s,Xd k=true->qp k=some s->∀ds rs,X k ds=some rs->kinds (bt s.res) rs=true)(hn:∀k ds,Xd k=false->X k ds=none):yZ Tryz.prog Wd (TT Tryz.prog) X Xd qp where
 stays:=zS
 ent:=fun k e he=>by
   unfold TT lO at he;split at he;rename_i r hl;cases he;obtain⟨h1,h2⟩:=hr k r hl;exact Ws Kx.SW (fun w hw g cs hg=>hw (g,cs) hg) h1 h2;cases he
 aaN:=fun k s ht hs ds rs h=>by
   cases hd:Xd k with
   |true=>exact hk k s hd hs ds rs h
   |false=>rw[hn k ds hd]at h;cases h
 ext:=fun k s ht hd hs=>hx k hd s hs
 non:=hn
end
end Go.Proofs.YtohebioanhliiaaGreatDoor.aw
