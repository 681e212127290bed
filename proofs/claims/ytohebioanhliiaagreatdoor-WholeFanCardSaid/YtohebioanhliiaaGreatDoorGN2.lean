/- What Do makes of a pipe at the end of a shape. -/
import Derived.Test.YtohebioanhliiaaGreatDoorGN1
import Derived.Test.YtohebioanhliiaaGreatDoorGX1
set_option linter.unusedVariables false
set_option maxRecDepth 100000
set_option linter.unusedSimpArgs false
namespace Go.Sx
def lkK(k:Nat):List (Nat×DV)->Option DV
 | []=>none
 | p::r=>match Nat.beq p.1 k with
   |true=>some p.2
   |false=>lkK k r
theorem KC{ae:aH}{k:Nat}{d:DV}:∀ {K:List (Nat×DV)},(∀p∈K,ae p.1=p.2)->lkK k K=some d->ae k=d
 | [],_,h=>by cases h
 | p::r,hK,h=>by
   unfold lkK at h;split at h;rename_i e;cases h;rw[<- mq e];exact hK p (aU ..);exact KC (fun q hq=>hK q (bn _ hq)) h
def iK(K:List (Nat×DV)):IE->Option Int
 | .v k=>match lkK k K with
   |some (.i n)=>some n
   |_=>none
 |.c n=>some n
 |_=>none
def bK(K:List (Nat×DV)):BE->Option Bool
 | .v k=>match lkK k K with
   |some (.b x)=>some x
   |_=>none
 |.c x=>some x
 | .not a=>match bK K a with
   |some x=>some (!x)
   |none=>none
 | .and a b=>match bK K a with
   |some true=>bK K b
   |some false=>some false
   | none=>match bK K b with
     |some false=>some false
     |_=>none
 | .eq a b=>match iK K a with
   | some x=>match iK K b with
     |some y=>some (decide (x=y))
     |none=>none
   |none=>none
 |_=>none
section
variable {K:List (Nat×DV)}{ae:aH}
theorem Zk(hK:∀p∈K,ae p.1=p.2){e:IE}{n:Int}(h:iK K e=some n):e.af ae=n:=by
 cases e with
 | v k=>
   simp only[iK]at h;split at h;rename_i m e;cases h;show(ae k).int=n;rw[KC hK e];rfl;cases h
 |c m=>cases h;rfl
 |_=>simp only[iK]at h;cases h
theorem Zl(hK:∀p∈K,ae p.1=p.2):∀ {c:BE} {x:Bool},bK K c=some x->c.af ae=x:=by
 intro c;induction c with
 | v k=>
   intro x h;simp only[bK]at h;split at h;rename_i y e;cases h;show(ae k).bool=x;rw[KC hK e];rfl;cases h
 |c y=>intro x h;cases h;rfl
 | not a ih=>
   intro x h;simp only[bK]at h;split at h;rename_i y e;cases h;show(!a.af ae) = !y;rw[ih e];cases h
 | and a b fb fB=>
   intro x h;simp only[bK]at h;show(a.af ae&&b.af ae)=x;split at h;rename_i e;rw[fb e,fB h];rfl;rename_i e;cases h;rw[fb e];rfl;split at h;rename_i e;cases h;rw[fB e];exact Bool.and_false _;cases h
 | eq a b=>
   intro x h;simp only[bK]at h;split at h;rename_i p e1;split at h;rename_i q e2;cases h;show decide (a.af ae=b.af ae)=_;rw[Zk hK e1,Zk hK e2];cases h;cases h
 |_=>intro x h;simp only[bK]at h;cases h
def au.spec(K:List (Nat×DV))(m:Nat):au->au
 |.ret v=>.ret v
 |.stuck s=>.stuck s
 | .ev (.call f g a r base) t=>match Nat.ble m base with
   |true=>.ev (.call f g a r base) (t.spec K m)
   |false=>.stuck ""
 | .ev (.cH id op) t=>match Nat.ble m id with
   |true=>.ev (.cH id op) (t.spec K m)
   |false=>.stuck ""
 |.ev (.aL p) t=>.ev (.aL p) (t.spec K m)
 |.ev (.dB _ _) _=>.stuck ""
 | .ite c a b=>match bK K c with
   |some true=>a.spec K m
   |some false=>b.spec K m
   |none=>.ite c (a.spec K m) (b.spec K m)
 | .loop id e ks base body=>match Nat.ble m base with
   |true=>.loop id e ks base (body.spec K m)
   |false=>.stuck ""
 |.again id v=>.again id v
 |.fail e=>.fail e
 |.fO x _ t=>.fO x (.stuck "") (t.spec K m)
 |.pop t=>.pop (t.spec K m)
def OK:List (Int->Prop)->List (Int->Prop)->Prop
 | [],[]=>True
 |p::ps,q::qs=>(∀n,p n->q n)/\OK ps qs
 |_,_=>False
theorem OK.refl:∀ {Ps:List (Int->Prop)},OK Ps Ps
 | []=>trivial
 |_::_=>⟨fun _ h=>h,OK.refl⟩
theorem R3{E:Nat->List DV->List DV->Prop}{R:List DV->Prop}{m:Nat}(hm:∀p∈K,p.1<m):∀(t:au) {Ps z7:List (Int->Prop)} {ae:aH} {F:Nat->List DV->Prop},OK Ps z7->(∀p∈K,ae p.1=p.2)->(t.spec K m).gY E R Ps ae F->t.gY E R z7 ae F:=by
 have fi:∀ {ae:aH} {base:Nat} {ds:List DV},(∀p∈K,ae p.1=p.2)->Nat.ble m base=true->∀p∈K,ae.aB base ds p.1=p.2:=fun {ae base ds} h hb p hp=>by
   rw[aH.cA (C6 (hm p hp) (Nat.le_of_ble_eq_true hb))];exact h p hp
 have aeV:∀ {ae:aH} {id:Nat} {d:DV},(∀p∈K,ae p.1=p.2)->Nat.ble m id=true->∀p∈K,ae.set id d p.1=p.2:=fun {ae id d} h hb p hp=>fi (ds:=[d]) h hb p hp;intro t;induction t with
 |ret v=>intro Ps z7 ae F _ _ h;exact h
 |stuck s=>intro Ps z7 ae F _ _ h;exact h.elim
 | ev e t ih=>
   intro Ps z7 ae F hP hK h;cases e with
   |aL p=>exact⟨h.1,ih hP hK h.2⟩
   | call f g a r base=>
     simp only[au.spec]at h;split at h;rename_i hb;refine⟨fun hg=>?_,fun hg=>ih hP (fi hK hb) (h.2 hg)⟩;obtain⟨rs,h1,h2⟩:=h.1 hg;exact⟨rs,h1,ih hP (fi hK hb) h2⟩;exact h.elim
   | cH id op=>
     simp only[au.spec]at h;split at h;rename_i hb;exact ih hP (aeV hK hb) h;exact h.elim
   |dB _ _=>exact h.elim
 | ite c a b fb fB=>
   intro Ps z7 ae F hP hK h;simp only[au.spec]at h;split at h;rename_i e;exact⟨fun _=>fb hP hK h,fun hc=>by rw[Zl hK e]at hc;cases hc⟩;rename_i e;exact⟨fun hc=>(by rw[Zl hK e]at hc;cases hc),fun _=>fB hP hK h⟩;exact⟨fun hc=>fb hP hK (h.1 hc),fun hc=>fB hP hK (h.2 hc)⟩
 | loop id e ks base body ih=>
   intro Ps z7 ae F hP hK h;simp only[au.spec]at h;split at h;rename_i hb;obtain⟨inv,oW,h0,h1⟩:=h;exact⟨inv,oW,h0,fun ds hd=>ih hP (fi hK hb) (h1 ds hd)⟩;exact h.elim
 |again id v=>intro Ps z7 ae F _ _ h;exact h
 | fail e=>
   intro Ps z7 ae F hP hK h;cases Ps with
   |nil=>exact h.elim
   | cons p ps=>cases z7 with
     |nil=>exact hP.elim
     |cons q qs=>exact hP.1 _ h
 | fO x tp t _ ih=>
   intro Ps z7 ae F hP hK h;exact ih (Ps:=(fun n=>(au.stuck "").gY E R Ps (ae.set x (.i n)) F)::Ps) (z7:=(fun n=>tp.gY E R z7 (ae.set x (.i n)) F)::z7) ⟨fun n hn=>hn.elim,hP⟩ hK h
 | pop t ih=>
   intro Ps z7 ae F hP hK h;cases Ps with
   |nil=>exact h.elim
   | cons p ps=>cases z7 with
     |nil=>exact hP.elim
     |cons q qs=>exact ih hP.2 hK h
end
end Go.Sx
namespace Go.Proofs.YtohebioanhliiaaGreatDoor.av
section
open Go.Sx Go
variable{i:Nat}{out:List (List Int)}{k:Nat}
abbrev g24(j:Nat):IE:=.get 4200 (.v 4208) j
abbrev DH:IE:=.add (.mul (g24 1) (.v 4202)) (g24 0)
abbrev abk:BE:=.and (.lt (.wrap .u64 (g24 0)) (.wrap .u64 (.v 4202))) (.lt (.wrap .u64 (g24 1)) (.wrap .u64 (.v 4203)))
def abl(c:Nat):au:=.ev (.aL (r6 (.add (.v 4207) (.c 1)))) (.ev (.aL (r6 (.add (.v 4208) (.c 1)))) (.again 148003 [.i (.add (.v 4207) (.c 1)),.i (.add (.v 4208) (.c 1)),.l 4209,.l c]))
def aeu:au:=.ev (.aL (r6 (.add (.v 4208) (.c 1)))) (.again 148003 [.i (.v 4207),.i (.add (.v 4208) (.c 1)),.l 4209,.l 4210])
def RS:List DE:=[.b (.v 79)]++iv 80 4++[.b (.v 84),.i (.v 85),.b (.v 86),.b (.v 87),.i (.v 88),.i (.v 89),.b (.v 90),.b (.v 91),.b (.v 92),.b (.v 93)]
def abm:List DE:=(List.range 8).map fun j=>.i (g24 j)
def RT:List DE:=[.i (.v 4202),.i (.v 4203),.l 4210,.l 4209,.i (g24 0),.i (g24 1)]
def Zd(e:IE):List DE:=[.i e,.i (.v 4202),.i (.v 4203),.l 4210,.l 4209]++(((((uB 0).set 58 (.b (.c false))).set 59 (.i (.c 0))).set 60 .nil).set 61 .nil).drop 5
def RU:au:=
.ev (.aL (.le (.c 0) (.v 4208))) (
.ev (.call 232 (.c true) RS [oB] 4214) (
.ev (.call 233 (.v 4214) abm [oB] 4215) (
.ite (.not (.or (.not (.v 4214)) (.not (.v 4215)))) (
.ev (.call 168 (.v 79) [.i (.v 80),.i (.v 81),.i (.v 82),.i (.v 83),.i (g24 0),.i (g24 1)] [oB] 4218) (
.ev (.call 236 (.c true) RT [.agg [.c i6,.c i6,.c i6,.c i6],oI,oB] 7803) (
.ev (.call 262 (.and (.v 7808) (.v 84)) [.i (.v 85),.i (g24 2),.i (.v 7807)] [oB] 10364) (
.ite (.or (.or (.not (.v 4214)) (.not (.v 4215))) (.or (.not (.v 7808)) (.and (.v 84) (.not (.v 10364))))) aeu (
.ev (.call 235 (.c true) [.i (g24 3),.i (g24 4),.i (g24 5),.i (g24 6),.i (g24 7)] [.agg [.c i6,.c i6,.c i6,.c i6]] 10365) (
.ev (.call 236 (.c true) RT [.agg [.c i6,.c i6,.c i6,.c i6],oI,oB] 13954) (
.ev (.call 237 (.c true) (iv 10365 4++iv 13954 4++[.i (.v 88),.i (.v 89)]) [.agg [.c i6,.c i6,.c i6,.c i6]] 16515) (
.ite (.not abk) (abl 4210) (
.ev (.aL (r6 (.mul (g24 1) (.v 4202)))) (
.ev (.aL (r6 DH)) (
.ev (.aL (.le (.c 0) DH)) (
.ev (.aL (.lt DH (.len 4210))) (
.ev (.call 136 (.c true) [.b (.v 90),.b (.v 91),.b (.v 92),.b (.v 93)] [oI] 23689) (
.ev (.aL (.lt (.c 0) (.len 4210))) (
.ev (.aL (.le (.c 0) DH)) (
.ev (.aL (.lt DH (.len 4210))) (
.ev (.call 137 (.c true) (iv 16515 4) [oI] 27274) (
.ev (.cH 29834 (.set 4210 DH 0 (.inl (.bits .or .i64 (.bits .andNot .i64 (.get 4210 DH 0) (.v 23689)) (.bits .and .i64 (.v 27274) (.v 23689)))))) (abl 29834))))))))))))))))))) aeu)))
def Ze:au:=.ite (.and (.not (.v 4201)) (.eq (.v 0) (.c 0))) (.pop (.ret (Zd (.c 9)))) (.pop (.ret (Zd (.v 0))))
def aev:au:=
.fO 102 (.stuck "") (
.ev (.call 57 (.c true) [.i (.c 18),.l 95] [oI] 614) (
.ite (.eq (.v 614) (.c 0)) (
.ev (.call 59 (.c true) [.b (.v 58),.i (.c 18)] [oB] 4199) (
.ite (.v 4199) (
.ev (.call 18 (.c true) (uB 0) [.one (.s 74 iw),oB] 4200) (
.ev (.call 135 (.c true) [.i (.v 1),.i (.v 2),.l 3,.l 4] [.agg [.c i6,.c i6,.s 3 [i6],.s 3 [i6]]] 4202) (.loop 148003 [.i (.c 0),.i (.c 0),.l 4205,.l 4204] [.c i6,.c i6,.s 3 [i6],.s 3 [i6]] 4207 (.ite (.lt (.v 4208) (.len 4200)) RU Ze)))) (.fail (.c 6)))) (.fail (.v 614))))
def K24:List (Nat×DV):=[(94,.i 18),(58,.b true),(79,.b false),(84,.b false),(87,.b true)]
theorem T24:TT PP 24=some ⟨24,gV PP (rowOf 24),(rowOf 24).sub⟩:=by kernel_rfl
theorem S24:(gV PP (rowOf 24)).spec K24 102=aev:=by kernel_rfl
def AG(out:List (List Int))(i k:Nat):Nat:=(posOf (out.take i)).count (((k%9:Nat):Int),((k/9:Nat):Int))
def gM(out:List (List Int))(i:Nat):List (List Int):=(List.range 72).map fun k:Nat=>[16843009*(AG out i k:Int)]
theorem AP:(gM out i).length=72:=by simp[gM]
theorem AQ(hk:k<72):(gM out i)[k]?=some [16843009*(AG out i k:Int)]:=by
 unfold gM;rw[gL,List.getElem?_range hk];rfl
theorem RV(hi:i<out.length):posOf (out.take (i+1))=posOf (out.take i)++[((out.getD i []).getD 0 0,(out.getD i []).getD 1 0)]:=by
 unfold posOf;rw[List.take_add_one,n8,eT hi,cT (l:=out),eT hi];rfl
theorem Iu(hi:i<out.length):AG out (i+1) k=AG out i k+if(out.getD i []).getD 0 0=((k%9:Nat):Int)/\(out.getD i []).getD 1 0=((k/9:Nat):Int)then 1 else 0:=by
 unfold AG;rw[RV hi,List.count_append,List.count_singleton];congr 1;by_cases h:(out.getD i []).getD 0 0=((k%9:Nat):Int)/\(out.getD i []).getD 1 0=((k/9:Nat):Int);rw[if_pos h,if_pos (by rw[h.1,h.2];exact beq_self_eq_true _)];rw[if_neg h,if_neg (fun he=>h (by have:=eq_of_beq he;exact⟨congrArg Prod.fst this,congrArg Prod.snd this⟩))]
theorem abn:AG out i k<=(posOf out).count (((k%9:Nat):Int),((k/9:Nat):Int)):=by
 have:posOf out=posOf (out.take i)++posOf (out.drop i):=by
   unfold posOf;rw[<- n8,C2]
 rw[this,List.count_append];unfold AG;omega
theorem Gl(hi:out.length<=i):gM out i=(List.range 72).map fun k:Nat=>[16843009*(((posOf out).count (((k%9:Nat):Int),((k/9:Nat):Int)):Nat):Int)]:=by
 unfold gM AG;rw[oS hi]
section
variable {out:List (List Int)}{i:Nat}{x y:Int}(hi:i<out.length)(hx:(out.getD i []).getD 0 0=x)(hy:(out.getD i []).getD 1 0=y)(bx:0<=x/\x<9)(Pq:0<=y/\y<8)(hc:∀p,(posOf out).count p<=1)
theorem cell0{out:List (List Int)}{i:Nat}{x:Int}{y:Int}(hi:i<out.length)(hx:(out.getD i []).getD 0 0=x)(hy:(out.getD i []).getD 1 0=y)(bx:0<=x/\x<9)(Pq:0<=y/\y<8)(hc:∀p,(posOf out).count p<=1):cellAt (gM out i) (y*9+x) 0=0:=by
 have hk:(y*9+x).toNat<72:=by omega
 unfold cellAt;rw[cT (l:=gM out i),AQ hk];show 16843009*(AG out i (y*9+x).toNat:Int)=0;have h1:=Iu (k:=(y*9+x).toNat) hi;rw[if_pos ⟨by rw[hx];omega,by rw[hy];omega⟩]at h1;have h2:=abn (out:=out) (i:=i+1) (k:=(y*9+x).toNat);have h3:=hc ((((y*9+x).toNat%9:Nat):Int),(((y*9+x).toNat/9:Nat):Int));have:AG out i (y*9+x).toNat=0:=by omega
 rw[this];rfl
theorem RW{out:List (List Int)}{i:Nat}{x:Int}{y:Int}(hi:i<out.length)(hx:(out.getD i []).getD 0 0=x)(hy:(out.getD i []).getD 1 0=y)(bx:0<=x/\x<9)(Pq:0<=y/\y<8)(hc:∀p,(posOf out).count p<=1):setAt (gM out i) (y*9+x) 0 16843009=gM out (i+1):=by
 have hk:(y*9+x).toNat<72:=by omega
 have h0:=cell0 hi hx hy bx Pq hc;unfold cellAt at h0;rw[cT (l:=gM out i),AQ hk]at h0;have h0:16843009*(AG out i (y*9+x).toNat:Int)=0:=h0;unfold setAt;apply List.ext_getElem?;intro k;rw[List.getElem?_modify];by_cases uX:k<72;rw[AQ uX,AQ uX,Iu hi,hx,hy];by_cases e:(y*9+x).toNat=k;subst e;rw[if_pos ⟨by omega,by omega⟩];simp only[if_true,tn];have:AG out i (y*9+x).toNat=0:=by omega
 rw[this];rfl;rw[if_neg (by omega)];simp[e];rw[th (by rw[AP];omega),th (by rw[AP];omega)];split<;>rfl
end
end
section
open Go.Sx Go
variable{ds rs:List DV}{x y:Int}
theorem aew:([57,59,18,135,232,233,236,235,237,136,137].all fun g=>Nat.beq ((⟨24,.stuck "",(rowOf 24).sub⟩:ir).key g) g)=true:=by kernel_rfl
theorem abo:([264].all fun g=>Nat.beq ((⟨236,.stuck "",(rowOf 236).sub⟩:ir).key g) g)=true:=by kernel_rfl
abbrev E24(g:FuncId)(ds rs:List DV):Prop:=eR (TT PP) XF ((⟨24,gV PP (rowOf 24),(rowOf 24).sub⟩:ir).key g) ds rs
theorem AH{g:FuncId}(hg:g∈[57,59,18,135,232,233,236,235,237,136,137])(h:Gf g ds rs):E24 g ds rs:=by
 have:=mq (kG.1 aew g hg);show eR (TT PP) XF ((⟨24,.stuck "",(rowOf 24).sub⟩:ir).key g) ds rs;rw[this];exact h
theorem lx{E:Nat->List DV->List DV->Prop}{R:List DV->Prop}{Ps:List (Int->Prop)}{ae:aH}{F:Nat->List DV->Prop}{t:au}{f:FuncId}{g:BE}{args:List DE}{res:List VT}{base:Nat}(rs:List DV)(hg:g.af ae=true)(ha:args.map (DE.af ae)=ds)(h:E f ds rs)(ht:t.gY E R Ps (ae.aB base rs) F):(au.ev (.call f g args res base) t).gY E R Ps ae F:=by
 subst ha;exact⟨fun _=>⟨rs,h,ht⟩,fun hf=>by rw[hg]at hf;cases hf⟩
theorem uC{k:Nat}(h:L5 (TT PP) 40 k [] 2000 ds rs=true):Gf k ds rs:=zf (tb:=[]) trivial h
theorem r57:Gf 57 [.i 18,.l []] [.i 0]:=uC (by kernel_rfl)
theorem r59:Gf 59 [.b true,.i 18] [.b true]:=uC (by kernel_rfl)
theorem ajf:Gf 232 [.b false,.i 0,.i 0,.i 0,.i 0,.b false,.i 1,.b true,.b true,.i 1,.i 1,.b true,.b true,.b true,.b true] [.b true]:=uC (by kernel_rfl)
theorem ajg:Gf 235 [.i 1,.i 1,.i 1,.i 1,.i 64] [.i 1,.i 1,.i 1,.i 1]:=uC (by kernel_rfl)
theorem ajh:Gf 237 [.i 1,.i 1,.i 1,.i 1,.i 0,.i 0,.i 0,.i 0,.i 1,.i 1] [.i 1,.i 1,.i 1,.i 1]:=uC (by kernel_rfl)
theorem aji:Gf 136 [.b true,.b true,.b true,.b true] [.i 4294967295]:=uC (by kernel_rfl)
theorem ajj:Gf 137 [.i 1,.i 1,.i 1,.i 1] [.i 16843009]:=uC (by kernel_rfl)
theorem ajk:Gf 264 [.i 0] [.i 0,.i 0,.i 0,.i 0]:=uC (by kernel_rfl)
def fP(n:Nat)(v:Int):List (List Int):=List.replicate n [v]
theorem ajl:Gf 135 [.i 9,.i 8,.l (fP 72 0),.l (fP 72 16777215)] [.i 9,.i 8,.l (fP 72 0),.l (fP 72 16777215)]:=uC (by kernel_rfl)
def cxF:Cx:=⟨[(0,8),(0,7),(0,16777215)],[],[],[]⟩
theorem ajm:jD (TT PP) cxF [] 2000 40 233 [.i (.s 0 [1]),.i (.s 0 [0,1]),.i (.s 0 [0,0,1]),.i (.k 1),.i (.k 1),.i (.k 1),.i (.k 1),.i (.k 64)] [.b true]=true:=by kernel_rfl
theorem ajn{z:Int}(hx:0<=x/\x<9)(hy:0<=y/\y<8)(hz:0<=z/\z<=16777215):Gf 233 [.i x,.i y,.i z,.i 1,.i 1,.i 1,.i 1,.i 64] [.b true]:=by
 have:=fV (X:=cxF) (V:=⟨[x,y,z],fun _=>[]⟩) (tb:=[]) (Y:=XF) ⟨⟨⟨⟨hx.1,by omega⟩,⟨hy.1,by omega⟩,hz,trivial⟩,fun x hx=>by cases hx⟩,fun j m hj=>(by cases hj),fun x hx=>(by cases hx)⟩ trivial ajm;have e:ez ⟨[x,y,z],fun _=>[]⟩ [.i (.s 0 [1]),.i (.s 0 [0,1]),.i (.s 0 [0,0,1]),.i (.k 1),.i (.k 1),.i (.k 1),.i (.k 1),.i (.k 64)]=[.i x,.i y,.i z,.i 1,.i 1,.i 1,.i 1,.i 64]:=by
   show [DV.i (0+(1*x+0)),.i (0+(0*x+(1*y+0))),.i (0+(0*x+(0*y+(1*z+0)))),.i 1,.i 1,.i 1,.i 1,.i 64]=_;rw[show 0+(1*x+0)=x by omega,show 0+(0*x+(1*y+0))=y by omega,show 0+(0*x+(0*y+(1*z+0)))=z by omega]
 rw[e]at this;exact this
abbrev Kv:IE:=.add (.mul (.v 5) (.v 0)) (.v 4)
def ajo:au:=.ite (.not (.and (.lt (.wrap .u64 (.v 4)) (.wrap .u64 (.v 0))) (.lt (.wrap .u64 (.v 5)) (.wrap .u64 (.v 1))))) (.ret [.i (.c 0),.i (.c 0),.i (.c 0),.i (.c 0),.i (.c 0),.b (.c false)]) (.ev (.aL (r6 (.mul (.v 5) (.v 0)))) (.ev (.aL (r6 Kv)) (.ev (.aL (.le (.c 0) Kv)) (.ev (.aL (.lt Kv (.len 2))) (.ev (.aL (.lt Kv (.len 3))) (
 .ev (.call 264 (.c true) [.i (.get 2 Kv 0)] [.agg [.c i6,.c i6,.c i6,.c i6]] 2568) (.ret [.i (.v 2568),.i (.v 2569),.i (.v 2570),.i (.v 2571),.i (.get 3 Kv 0),.b (.c true)])))))))
theorem ajp:TT PP 236=some ⟨236,ajo,(rowOf 236).sub⟩:=by kernel_rfl
theorem pO{n:Int}(h0:0<=n)(h1:n<1000):IntKind.u64.wrap n=n:=by rw[lQ];omega
theorem Xk{C Z:List (List Int)}(hx:0<=x/\x<9)(hy:0<=y/\y<8)(hC:C.length=72)(hZ:Z.length=72)(c0:cellAt C (y*9+x) 0=0):∃z,Gf 236 [.i 9,.i 8,.l C,.l Z,.i x,.i y] [.i 0,.i 0,.i 0,.i 0,.i z,.b true]:=by
 refine⟨cellAt Z (y*9+x) 0,?_⟩;obtain⟨rs,h,rfl⟩:=ov (X:=XF) (ds:=[.i 9,.i 8,.l C,.l Z,.i x,.i y]) (R:=fun rs=>rs=[DV.i 0,.i 0,.i 0,.i 0,.i (cellAt Z (y*9+x) 0),.b true]) ajp (by
   refine jR (fun hh=>?_) (fun _=>?_);exfalso;have hh:(!(decide (IntKind.u64.wrap x<IntKind.u64.wrap 9)&&decide (IntKind.u64.wrap y<IntKind.u64.wrap 8)))=true:=hh;rw[pO hx.1 (by omega),pO hy.1 (by omega),pO (by omega) (by omega),pO (by omega) (by omega),kR hx.2,kR hy.2]at hh;cases hh;have e0:(Kv).af (bj.aB 0 [.i 9,.i 8,.l C,.l Z,.i x,.i y])=y*9+x:=rfl;refine oN (by show _<=y*9/\y*9<=_;omega) (oN (by rw[e0];omega) (l9 (by rw[e0];show 0<=y*9+x;omega) (Gm (by rw[e0];show y*9+x<(C.length:Int);omega) (Gm (by rw[e0];show y*9+x<(Z.length:Int);omega) ?_))));refine lx (ds:=[.i 0]) [.i 0,.i 0,.i 0,.i 0] rfl ?_ (by
     show eR (TT PP) XF ((⟨236,.stuck "",(rowOf 236).sub⟩:ir).key 264) _ _;rw[mq (kG.1 abo 264 (by simp))];exact ajk) (BV rfl)
   show [DV.i (cellAt C (y*9+x) 0)]=_;rw[c0])
 exact h
end
section
open Go.Sx Go
variable{E:Nat->List DV->List DV->Prop}{F:Nat->List DV->Prop}{Ps:List (Int->Prop)}{R:List DV->Prop}{ae:aH}{t:au}{e:aH}{m:Nat}
theorem abp{x:Nat}{t':au}(h:t'.gY E R ((fun n=>t.gY E R Ps (ae.set x (.i n)) F)::Ps) ae F):(au.fO x t t').gY E R Ps ae F:=h
theorem abq{p:Int->Prop}(h:t.gY E R Ps ae F):(au.pop t).gY E R (p::Ps) ae F:=h
theorem RX{f:FuncId}{g:BE}{args:List DE}{res:List VT}{base:Nat}(hg:g.af ae=false)(ht:t.gY E R Ps (ae.aB base (defs (bL res))) F):(au.ev (.call f g args res base) t).gY E R Ps ae F:=⟨fun h=>(by rw[hg]at h;cases h),fun _=>ht⟩
def RY(m:Nat):DE->Bool
 |.i (.v k)=>Nat.blt k m
 |.b (.v k)=>Nat.blt k m
 |.l k=>Nat.blt k m
 |.i (.c _)=>true
 |.b (.c _)=>true
 |.nil=>true
 |_=>false
theorem Xl{a:aH}(he:∀k,k<m->e k=a k){d:DE}(h:RY m d=true):d.af e=d.af a:=by
 unfold RY at h;split at h;rename_i k;show DV.i (e k).int = .i (a k).int;rw[he k (Nat.le_of_ble_eq_true h)];rename_i k;show DV.b (e k).bool = .b (a k).bool;rw[he k (Nat.le_of_ble_eq_true h)];rename_i k;show DV.l (e k).list = .l (a k).list;rw[he k (Nat.le_of_ble_eq_true h)];rfl;rfl;rfl;cases h
theorem Gn{a:aH}(he:∀k,k<m->e k=a k){l:List DE}(h:l.all (RY m)=true):l.map (DE.af e)=l.map (DE.af a):=xh fun d hd=>Xl he (kG.1 h d hd)
def Cl:List DE:=(((((uB 0).set 58 (.b (.c false))).set 59 (.i (.c 0))).set 60 .nil).set 61 .nil).drop 5
theorem RZ:Cl.all (RY 102)=true:=by kernel_rfl
theorem R2:(uB 0).all (RY 102)=true:=by kernel_rfl
structure aex(a:aH):Prop where
 k:∀p∈K24,a p.1=p.2
 i0:a 0 = .i 0
 i1:a 1 = .i 9
 i2:a 2 = .i 8
 c:a 3 = .l (fP 72 0)
 z:a 4 = .l (fP 72 16777215)
 n:a 95 = .l []
 ops:RS.map (DE.af a)=[.b false,.i 0,.i 0,.i 0,.i 0,.b false,.i 1,.b true,.b true,.i 1,.i 1,.b true,.b true,.b true,.b true]
theorem abr:Go.bits .or .i64 (Go.bits .andNot .i64 0 4294967295) (Go.bits .and .i64 16843009 4294967295)=16843009:=by kernel_rfl
theorem abt{st:List DV}{a:aH}{out:List (List Int)}(ha:bj.aB 0 st=a)(hS:aex a)(ho:∀r∈out,DG r)(hc:∀p,(posOf out).count p<=1)(hlen:out.length<=512000000000)(Gp:Gf 18 ((uB 0).map (DE.af a)) [.l out,.b true]) :
   Gf 24 st ([.i 0,.i 9,.i 8,.l (gM out out.length),.l (fP 72 16777215)]++Cl.map (DE.af a)):=by
 obtain⟨rs,h,rfl⟩:=ov (X:=XF) (ds:=st) (R:=fun rs=>rs=[DV.i 0,.i 9,.i 8,.l (gM out out.length),.l (fP 72 16777215)]++Cl.map (DE.af a)) T24 (R3 (K:=K24) (m:=102) (by decide) (Ps:=[]) _ OK.refl (by rw[ha];exact hS.k) (by
   rw[S24,ha];unfold aev;have v58:a 58 = .b true:=hS.k (58,.b true) (by simp[K24]);have v79:a 79 = .b false:=hS.k (79,.b false) (by simp[K24]);have v84:a 84 = .b false:=hS.k (84,.b false) (by simp[K24]);refine abp (lx (ds:=[.i 18,.l []]) [.i 0] rfl ?_ (AH (by simp) r57) ?_);show [DV.i 18,.l (a 95).list]=_;rw[hS.n];rfl;obtain⟨e1,xf,o1,w1⟩:=oY a 614 [.i 0];rw[<- xf];refine dV (fun _=>?_) (fun cV=>absurd (show(e1 614).int=0 by rw[show e1 614 = .i 0 from w1 0 (by simp)];rfl) cV);refine lx (ds:=[.b true,.i 18]) [.b true] rfl ?_ (AH (by simp) r59) ?_;show [DV.b (e1 58).bool,.i 18]=_;rw[o1 58 (by omega),v58];rfl;obtain⟨e2,I2,o2,w2⟩:=oY e1 4199 [.b true];rw[<- I2];refine jR (fun _=>?_) (fun hf=>absurd (show(e2 4199).bool=false from hf) (by rw[show e2 4199 = .b true from w2 0 (by simp)];decide));have o2a:∀k,k<102->e2 k=a k:=fun k hk=>by rw[o2 k (by omega),o1 k (by omega)]
   refine lx (ds:=(uB 0).map (DE.af a)) [.l out,.b true] rfl (Gn o2a R2) (AH (by simp) Gp) ?_;obtain⟨e3,I5,o3,w3⟩:=oY e2 4200 [.l out,.b true];rw[<- I5];have o3a:∀k,k<102->e3 k=a k:=fun k hk=>by rw[o3 k (by omega),o2a k hk]
   refine lx (ds:=[.i 9,.i 8,.l (fP 72 0),.l (fP 72 16777215)]) _ rfl ?_ (AH (by simp) ajl) ?_;show [DV.i (e3 1).int,.i (e3 2).int,.l (e3 3).list,.l (e3 4).list]=_;rw[o3a 1 (by omega),o3a 2 (by omega),o3a 3 (by omega),o3a 4 (by omega),hS.i1,hS.i2,hS.c,hS.z];rfl;obtain⟨e4,RN,o4,w4⟩:=oY e3 4202 [.i 9,.i 8,.l (fP 72 0),.l (fP 72 16777215)];rw[<- RN];have o4a:∀k,k<102->e4 k=a k:=fun k hk=>by rw[o4 k (by omega),o3a k hk]
   have aey:e4 4200 = .l out:=by rw[o4 _ (by omega)];exact w3 0 (by simp)
   have aez:e4 4201 = .b true:=by rw[o4 _ (by omega)];exact w3 1 (by simp)
   have aeA:e4 4202 = .i 9:=w4 0 (by simp);have aeB:e4 4203 = .i 8:=w4 1 (by simp);have aeC:e4 4204 = .l (fP 72 0):=w4 2 (by simp);have aeD:e4 4205 = .l (fP 72 16777215):=w4 3 (by simp);refine mN (fun vs=>∃i:Nat,vs=[.i i,.i i,.l (fP 72 16777215),.l (gM out i)]/\i<=out.length) (fun vs=>match vs with
     |_ :: .i i::_=>out.length-i.toNat
     |_=>0) ⟨0,?_,Nat.zero_le _⟩ ?_
   show [DV.i 0,.i 0,.l (e4 4205).list,.l (e4 4204).list]=_;rw[aeC,aeD];have:gM out 0=fP 72 0:=by
     show(List.range 72).map (fun k:Nat=>[16843009*(((posOf []).count _:Nat):Int)])=_;rfl
   rw[this];rfl;rintro _ ⟨i,rfl,hi⟩;obtain⟨e5,he5,o5,w5⟩:=oY e4 4207 [.i i,.i i,.l (fP 72 16777215),.l (gM out i)];rw[<- he5];have Pr:∀k,k<102->e5 k=a k:=fun k hk=>by rw[o5 k (by omega),o4a k hk]
   have v7:e5 4207 = .i i:=w5 0 (by simp);have v8:e5 4208 = .i i:=w5 1 (by simp);have v9:e5 4209 = .l (fP 72 16777215):=w5 2 (by simp);have v10:e5 4210 = .l (gM out i):=w5 3 (by simp);have v0:e5 4200 = .l out:=by rw[o5 _ (by omega)];exact aey
   have v2:e5 4202 = .i 9:=by rw[o5 _ (by omega)];exact aeA
   have v3:e5 4203 = .i 8:=by rw[o5 _ (by omega)];exact aeB
   refine ix (fun cu=>?_) (fun ng=>?_)
   rotate_left
   have ng:((e5 4200).list.length:Int)<=(e5 4208).int:=ng;rw[v0,v8]at ng;have ng:(out.length:Int)<=(i:Int):=ng;have H3:i=out.length:=by omega
   unfold Ze;refine jR (fun hh=>?_) (fun _=>abq (BV ?_));exfalso;have hh:(!(e5 4201).bool&&decide ((e5 0).int=0))=true:=hh;rw[o5 4201 (by omega),aez]at hh;cases hh;show [DV.i (e5 0).int,.i (e5 4202).int,.i (e5 4203).int,.l (e5 4210).list,.l (e5 4209).list]++Cl.map (DE.af e5)=_;rw[Pr 0 (by omega),hS.i0,v2,v3,v10,v9,Gn Pr RZ,H3];rfl;have cu:(e5 4208).int<((e5 4200).list.length:Int):=cu;rw[v0,v8]at cu;have cu:(i:Int)<(out.length:Int):=cu;have hil:i<out.length:=by omega
   have hm:out.getD i []∈out:=by
     rw[cT,eT hil];exact List.getElem_mem _
   obtain⟨x,y,z,hr,bx,Pq,bz⟩:=ho _ hm;have hx:(out.getD i []).getD 0 0=x:=by rw[hr];rfl
   have hy:(out.getD i []).getD 1 0=y:=by rw[hr];rfl
   have c0:=cell0 hil hx hy bx Pq hc;have fr:∀(e:aH) j,(∀k,k<4214->e k=e5 k)->(g24 j).af e=[x,y,z,1,1,1,1,64].getD j 0:=fun e j he=>by
     show cellAt (e 4200).list (e 4208).int j=_;rw[he _ (by omega),he _ (by omega),v0,v8];show(out.getD i []).getD j 0=_;rw[hr]
   unfold RU;refine l9 (by show(0:Int)<=(e5 4208).int;rw[v8];show(0:Int)<=(i:Int);omega) ?_;refine lx [.b true] rfl ((Gn Pr (by kernel_rfl)).trans hS.ops) (AH (by simp) ajf) ?_;obtain⟨e6,Xh,o6,w6⟩:=oY e5 4214 [.b true];rw[<- Xh];have v14:e6 4214 = .b true:=w6 0 (by simp);have f6:∀j,(g24 j).af e6=[x,y,z,1,1,1,1,64].getD j 0:=fun j=>fr e6 j o6;refine lx (ds:=[.i x,.i y,.i z,.i 1,.i 1,.i 1,.i 1,.i 64]) [.b true] (by show(e6 4214).bool=true;rw[v14];rfl) ?_ (AH (by simp) (ajn bx Pq bz)) ?_;show [DV.i ((g24 0).af e6),.i ((g24 1).af e6),.i ((g24 2).af e6),.i ((g24 3).af e6),.i ((g24 4).af e6),.i ((g24 5).af e6),.i ((g24 6).af e6),.i ((g24 7).af e6)]=_;simp only[f6];rfl;obtain⟨e7,he7,o7,w7⟩:=oY e6 4215 [.b true];rw[<- he7];have v15:e7 4215 = .b true:=w7 0 (by simp);have aeE:e7 4214 = .b true:=by rw[o7 _ (by omega)];exact v14
   refine jR (fun _=>?_) (fun hf=>absurd (show(!(!(e7 4214).bool || !(e7 4215).bool))=false from hf) (by rw[aeE,v15];decide));have o75:∀k,k<4214->e7 k=e5 k:=fun k hk=>by rw[o7 k (by omega),o6 k hk]
   refine RX (by show(e7 79).bool=false;rw[o75 79 (by omega),Pr 79 (by omega),v79];rfl) ?_;obtain⟨e8,he8,o8,w8⟩:=oY e7 4218 (defs (bL [oB]));rw[<- he8];have o85:∀k,k<4214->e8 k=e5 k:=fun k hk=>by rw[o8 k (by omega),o75 k hk]
   obtain⟨zz,hz⟩:=Xk (C:=gM out i) (Z:=fP 72 16777215) bx Pq AP rfl c0;have Zf:∀e:aH,(∀k,k<4214->e k=e5 k)->RT.map (DE.af e)=[.i 9,.i 8,.l (gM out i),.l (fP 72 16777215),.i x,.i y]:=fun e he=>by
     show [DV.i (e 4202).int,.i (e 4203).int,.l (e 4210).list,.l (e 4209).list,.i ((g24 0).af e),.i ((g24 1).af e)]=_;rw[he _ (by omega),he _ (by omega),he _ (by omega),he _ (by omega),v2,v3,v10,v9,fr e 0 he,fr e 1 he];rfl
   refine lx _ rfl (Zf e8 o85) (AH (by simp) hz) ?_;obtain⟨e9,Xi,o9,w9⟩:=oY e8 7803 [.i 0,.i 0,.i 0,.i 0,.i zz,.b true];rw[<- Xi];have o95:∀k,k<4214->e9 k=e5 k:=fun k hk=>by rw[o9 k (by omega),o85 k hk]
   have aeF:e9 7808 = .b true:=w9 5 (by simp);refine RX (by show((e9 7808).bool&&(e9 84).bool)=false;rw[o95 84 (by omega),Pr 84 (by omega),v84];exact Bool.and_false _) ?_;obtain⟨uu,Kt,OJ,w10⟩:=oY e9 10364 (defs (bL [oB]));rw[<- Kt];have oA5:∀k,k<4214->uu k=e5 k:=fun k hk=>by rw[OJ k (by omega),o95 k hk]
   have aeG:((!(uu 4214).bool || !(uu 4215).bool)||(!(uu 7808).bool||((uu 84).bool && !(uu 10364).bool)))=false:=by
     rw[OJ 4214 (by omega),o9 4214 (by omega),o8 4214 (by omega),aeE,OJ 4215 (by omega),o9 4215 (by omega),o8 4215 (by omega),v15,OJ 7808 (by omega),aeF,oA5 84 (by omega),Pr 84 (by omega),v84];rfl
   refine jR (fun hf=>absurd (show((!(uu 4214).bool || !(uu 4215).bool)||(!(uu 7808).bool||((uu 84).bool && !(uu 10364).bool)))=true from hf) (by rw[aeG];decide)) (fun _=>?_);refine lx (ds:=[.i 1,.i 1,.i 1,.i 1,.i 64]) [.i 1,.i 1,.i 1,.i 1] rfl ?_ (AH (by simp) ajg) ?_;show [DV.i ((g24 3).af uu),.i ((g24 4).af uu),.i ((g24 5).af uu),.i ((g24 6).af uu),.i ((g24 7).af uu)]=_;simp only[fr uu _ oA5];rfl;obtain⟨CY,RP,o11,w11⟩:=oY uu 10365 [.i 1,.i 1,.i 1,.i 1];rw[<- RP];have oB5:∀k,k<4214->CY k=e5 k:=fun k hk=>by rw[o11 k (by omega),oA5 k hk]
   refine lx _ rfl (Zf CY oB5) (AH (by simp) hz) ?_;obtain⟨ry,abu,Ks,Xm⟩:=oY CY 13954 [.i 0,.i 0,.i 0,.i 0,.i zz,.b true];rw[<- abu];have oC5:∀k,k<4214->ry k=e5 k:=fun k hk=>by rw[Ks k (by omega),oB5 k hk]
   have ajq:=hS.ops;have v88:(a 88).int=1/\(a 89).int=1/\(a 90).bool=true/\(a 91).bool=true/\(a 92).bool=true/\(a 93).bool=true:=by
     have q: [DV.b (a 79).bool,.i (a 80).int,.i (a 81).int,.i (a 82).int,.i (a 83).int,.b (a 84).bool,.i (a 85).int,.b (a 86).bool,.b (a 87).bool,.i (a 88).int,.i (a 89).int,.b (a 90).bool,.b (a 91).bool,.b (a 92).bool,.b (a 93).bool]=[.b false,.i 0,.i 0,.i 0,.i 0,.b false,.i 1,.b true,.b true,.i 1,.i 1,.b true,.b true,.b true,.b true]:=ajq;simp only[List.cons.injEq,DV.i.injEq,DV.b.injEq]at q;exact⟨q.2.2.2.2.2.2.2.2.2.1,q.2.2.2.2.2.2.2.2.2.2.1,q.2.2.2.2.2.2.2.2.2.2.2.1,q.2.2.2.2.2.2.2.2.2.2.2.2.1,q.2.2.2.2.2.2.2.2.2.2.2.2.2.1,q.2.2.2.2.2.2.2.2.2.2.2.2.2.2.1⟩
   refine lx (ds:=[.i 1,.i 1,.i 1,.i 1,.i 0,.i 0,.i 0,.i 0,.i 1,.i 1]) [.i 1,.i 1,.i 1,.i 1] rfl ?_ (AH (by simp) ajh) ?_;show [DV.i (ry 10365).int,.i (ry 10366).int,.i (ry 10367).int,.i (ry 10368).int,.i (ry 13954).int,.i (ry 13955).int,.i (ry 13956).int,.i (ry 13957).int,.i (ry 88).int,.i (ry 89).int]=_;rw[Ks 10365 (by omega),Ks 10366 (by omega),Ks 10367 (by omega),Ks 10368 (by omega),show CY 10365 = .i 1 from w11 0 (by simp),show CY 10366 = .i 1 from w11 1 (by simp),show CY 10367 = .i 1 from w11 2 (by simp),show CY 10368 = .i 1 from w11 3 (by simp),
     show ry 13954 = .i 0 from Xm 0 (by simp),show ry 13955 = .i 0 from Xm 1 (by simp),show ry 13956 = .i 0 from Xm 2 (by simp),show ry 13957 = .i 0 from Xm 3 (by simp),oC5 88 (by omega),Pr 88 (by omega),v88.1,oC5 89 (by omega),Pr 89 (by omega),v88.2.1]
   rfl;obtain⟨vP,abv,I6,w13⟩:=oY ry 16515 [.i 1,.i 1,.i 1,.i 1];rw[<- abv];have Kx:∀k,k<4214->vP k=e5 k:=fun k hk=>by rw[I6 k (by omega),oC5 k hk]
   have gR:(abk).af vP=true:=by
     show(decide (IntKind.u64.wrap ((g24 0).af vP)<IntKind.u64.wrap (vP 4202).int)&&decide (IntKind.u64.wrap ((g24 1).af vP)<IntKind.u64.wrap (vP 4203).int))=true;rw[fr vP 0 Kx,fr vP 1 Kx,Kx 4202 (by omega),Kx 4203 (by omega),v2,v3];show(decide (IntKind.u64.wrap x<IntKind.u64.wrap 9)&&decide (IntKind.u64.wrap y<IntKind.u64.wrap 8))=true;rw[pO bx.1 (by omega),pO Pq.1 (by omega),pO (by omega) (by omega),pO (by omega) (by omega),kR bx.2,kR Pq.2];rfl
   have Mk:∀e:aH,(∀k,k<4214->e k=e5 k)->(DH).af e=y*9+x:=fun e he=>by
     show(g24 1).af e*(e 4202).int+(g24 0).af e=_;rw[fr e 0 he,fr e 1 he,he 4202 (by omega),v2];rfl
   have Xn:∀e:aH,(∀k,k<4214->e k=e5 k)->(IE.len 4210).af e=72:=fun e he=>by
     show((e 4210).list.length:Int)=72;rw[he 4210 (by omega),v10];show((gM out i).length:Int)=72;rw[AP];rfl
   refine jR (fun hf=>absurd (show(!(abk).af vP)=true from hf) (by rw[gR];decide)) (fun _=>?_);refine oN (by show _<=(g24 1).af vP*(vP 4202).int/\(g24 1).af vP*(vP 4202).int<=_;rw[fr vP 1 Kx,Kx 4202 (by omega),v2];show _<=y*9/\y*9<=_;omega) (oN (by rw[Mk vP Kx];omega) (l9 (by rw[Mk vP Kx];show(0:Int)<=y*9+x;omega) (Gm (by rw[Mk vP Kx,Xn vP Kx];omega) ?_)));refine lx (ds:=[.b true,.b true,.b true,.b true]) [.i 4294967295] rfl ?_ (AH (by simp) aji) ?_;show [DV.b (vP 90).bool,.b (vP 91).bool,.b (vP 92).bool,.b (vP 93).bool]=_;rw[Kx 90 (by omega),Kx 91 (by omega),Kx 92 (by omega),Kx 93 (by omega),Pr 90 (by omega),Pr 91 (by omega),Pr 92 (by omega),Pr 93 (by omega),v88.2.2.1,v88.2.2.2.1,v88.2.2.2.2.1,v88.2.2.2.2.2];obtain⟨Ot,ajr,o14,w14⟩:=oY vP 23689 [.i 4294967295];rw[<- ajr];have oE5:∀k,k<4214->Ot k=e5 k:=fun k hk=>by rw[o14 k (by omega),Kx k hk]
   refine Gm (by rw[Xn Ot oE5];show(0:Int)<72;omega) (l9 (by rw[Mk Ot oE5];show(0:Int)<=y*9+x;omega) (Gm (by rw[Mk Ot oE5,Xn Ot oE5];omega) ?_));refine lx (ds:=[.i 1,.i 1,.i 1,.i 1]) [.i 16843009] rfl ?_ (AH (by simp) ajj) ?_;show [DV.i (Ot 16515).int,.i (Ot 16516).int,.i (Ot 16517).int,.i (Ot 16518).int]=_;rw[o14 16515 (by omega),o14 16516 (by omega),o14 16517 (by omega),o14 16518 (by omega),show vP 16515 = .i 1 from w13 0 (by simp),show vP 16516 = .i 1 from w13 1 (by simp),show vP 16517 = .i 1 from w13 2 (by simp),show vP 16518 = .i 1 from w13 3 (by simp)];rfl;obtain⟨Ou,ajs,o15,w15⟩:=oY Ot 27274 [.i 16843009];rw[<- ajs];have oF5:∀k,k<4214->Ou k=e5 k:=fun k hk=>by rw[o15 k (by omega),oE5 k hk]
   refine gU (M:=gM out (i+1)) ?_ ?_;show setAt (Ou 4210).list ((DH).af Ou) 0 (Go.bits .or .i64 (Go.bits .andNot .i64 (cellAt (Ou 4210).list ((DH).af Ou) 0) (Ou 23689).int) (Go.bits .and .i64 (Ou 27274).int (Ou 23689).int))=_;rw[Mk Ou oF5,oF5 4210 (by omega),v10,o15 23689 (by omega),show Ot 23689 = .i 4294967295 from w14 0 (by simp),show Ou 27274 = .i 16843009 from w15 0 (by simp)];show setAt (gM out i) (y*9+x) 0 (Go.bits .or .i64 (Go.bits .andNot .i64 (cellAt (gM out i) (y*9+x) 0) 4294967295) (Go.bits .and .i64 16843009 4294967295))=_;rw[c0,abr];exact RW hil hx hy bx Pq hc;obtain⟨L3,ajt,o16,w16⟩:=Ip Ou 29834 (.l (gM out (i+1)));rw[<- ajt];have oG5:∀k,k<4214->L3 k=e5 k:=fun k hk=>by rw[o16 k (by omega),oF5 k hk]
   have x7:L3 4207 = .i i:=by rw[oG5 _ (by omega)];exact v7
   have x8:L3 4208 = .i i:=by rw[oG5 _ (by omega)];exact v8
   have hsm:(i:Int)<512000000000:=by
     have:out.length<=512000000000:=hlen;omega
   unfold abl;refine oN (by show _<=(L3 4207).int+1/\(L3 4207).int+1<=_;rw[x7];show _<=(i:Int)+1/\(i:Int)+1<=_;omega) (oN (by show _<=(L3 4208).int+1/\(L3 4208).int+1<=_;rw[x8];show _<=(i:Int)+1/\(i:Int)+1<=_;omega) (ld ?_));have hv: [DE.i (.add (.v 4207) (.c 1)),DE.i (.add (.v 4208) (.c 1)),DE.l 4209,DE.l 29834].map (DE.af L3)=[.i ((i+1:Nat):Int),.i ((i+1:Nat):Int),.l (fP 72 16777215),.l (gM out (i+1))]:=by
     show [DV.i ((L3 4207).int+1),.i ((L3 4208).int+1),.l (L3 4209).list,.l (L3 29834).list]=_;rw[x7,x8,oG5 4209 (by omega),v9,w16];show [DV.i ((i:Int)+1),.i ((i:Int)+1),.l (fP 72 16777215),.l (gM out (i+1))]=_;rw[show((i+1:Nat):Int)=(i:Int)+1 by omega]
   rw[hv];refine⟨⟨i+1,rfl,by omega⟩,?_⟩;show out.length-(((i+1:Nat):Int)).toNat<out.length-((i:Int)).toNat;omega)
   )
 exact h
end
end Go.Proofs.YtohebioanhliiaaGreatDoor.av
