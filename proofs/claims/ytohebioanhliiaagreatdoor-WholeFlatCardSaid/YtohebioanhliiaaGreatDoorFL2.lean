/- Points and lines are trimmed by sides. -/
import Derived.Test.YtohebioanhliiaaGreatDoorFL1
set_option maxRecDepth 100000
set_option linter.unusedVariables false
set_option linter.unusedSimpArgs false
namespace Go.Proofs.YtohebioanhliiaaGreatDoor.aN
section
open Go.Sx Go
def aa2:List DE:=[.i (.c 0),.i (.c 0),.i (.c 0),.i (.c 0),.i (.c 0),.i (.c 0),.i (.c 0),.i (.c 0),.i (.c 0),.i (.c 0),.i (.c 0),.i (.c 0),.i (.c 0),.i (.c 0),.i (.c 0),.i (.c 0),.b (.c false)]
def CP(ln ld fn fd c:Nat):aA:=.ev (.call 110 (.and (.lt (.c 0) (.v fd)) (.lt (.c 0) (.v ld))) [.i (.v ln),.i (.v ld),.i (.v fn),.i (.v fd)] [oB] c) (.ite (.and (.and (.lt (.c 0) (.v fd)) (.lt (.c 0) (.v ld))) (.v c)) (.ret aa2)
 (.ev (.aH (r6 (.add (.v 24) (.c 1)))) (.again 71003 [.b (.v 23),.i (.add (.v 24) (.c 1)),.i (.v ln),.i (.v ld),.i (.v fn),.i (.v fd)])))
def Jy:List DE:=[.i (.get 16 (.v 24) 0),.i (.get 16 (.v 24) 1),.i (.get 16 (.v 24) 2),.i (.get 16 (.v 24) 3),.i (.get 16 (.v 24) 4)]++iv 0 16
def rAt:List VT:=[.agg [.c i6,.c i6,.c i6,.c i6,.c i6,.c i6,.c i6,.c i6],oI]
def abF:aA:=.ev (.aH (.le (.c 0) (.v 24))) (.ev (.call 109 (.c true) Jy [oI,oI,oI] 30) (.ite (.eq (.v 30) (.c 1))
 (.ev (.call 110 (.not (.eq (.v 28) (.c 0))) [.i (.v 27),.i (.v 28),.i (.v 31),.i (.v 32)] [oB] 34) (.ite (.or (.eq (.v 28) (.c 0)) (.v 34)) (CP 25 26 31 32 35) (CP 25 26 27 28 35)))
 (.ite (.eq (.v 30) (.c 2))
 (.ev (.call 110 (.not (.eq (.v 26) (.c 0))) [.i (.v 31),.i (.v 32),.i (.v 25),.i (.v 26)] [oB] 34) (.ite (.or (.eq (.v 26) (.c 0)) (.v 34)) (CP 31 32 27 28 35) (CP 25 26 27 28 35)))
 (.ite (.eq (.v 30) (.c 3)) (.ret aa2) (CP 25 26 27 28 34)))))
def Yu:aA:=.ite (.lt (.c 0) (.v 28)) (.ev (.call 111 (.c true) (iv 0 16++[.i (.v 27),.i (.v 28)]) rAt 1566) (.ite (.lt (.c 0) (.v 26)) (.ev (.call 111 (.c true) (iv 0 16++[.i (.v 25),.i (.v 26)]) rAt 1575) (.ret (iv 1566 8++iv 1575 8++[.b (.c true)]))) (.ret (iv 1566 8++iv 8 8++[.b (.c true)]))))
 (.ite (.lt (.c 0) (.v 26)) (.ev (.call 111 (.c true) (iv 0 16++[.i (.v 25),.i (.v 26)]) rAt 1566) (.ret (iv 0 8++iv 1566 8++[.b (.c true)]))) (.ret (iv 0 16++[.b (.c true)])))
def t71:aA:=.loop 71003 [.b (.c false),.i (.c 0),.i (.c 0),.i (.c 0),.i (.c 0),.i (.c 0)] [.c (.b),.c i6,.c i6,.c i6,.c i6,.c i6] 23 (.ite (.lt (.v 24) (.len 16)) abF Yu)
theorem T71:TT PP 71=some ⟨71,t71,(rowOf 71).sub⟩:=by kernel_rfl
def Pt(u v s:List Int)(k n d:Int):Prop:=Gf 109 (cells 5 s++cells 8 u++cells 8 v) [.i k,.i n,.i d]
theorem Pt.Ut{u v s:List Int}{k n d k' n' d':Int}(h:Pt u v s k n d)(h':Pt u v s k' n' d'):k=k'/\n=n'/\d=d':=by
 have:=cX.Ut h h';injection this with h1 this;injection this with h2 this;injection this with h3 _;injection h1 with h1;injection h2 with h2;injection h3 with h3;exact⟨h1,h2,h3⟩
abbrev Fr(n d:Int):Prop:=0<=n/\n<=d/\1<=d/\d<=9223372036854775807
theorem Fr.i{n d:Int}(h:Fr n d):gF n/\gF d:=by constructor<;>constructor<;>omega
variable {u v:List Int}{S:List (List Int)}
theorem Ah{j:Nat}(h:j<S.length):S.getD j []∈S:=by
 rw[cm,eN h];exact List.getElem_mem h
theorem mem_row{s:List Int}(h:s∈S):∃j,j<S.length/\S.getD j []=s:=by
 obtain⟨j,hj,e⟩:=List.getElem_of_mem h;exact⟨j,hj,by rw[cm,eN hj];exact e⟩
end
section
open Go.Sx Go
def JV:aA:=.ite (.lt (.v 6) (.len 0)) (.ev (.aH (.le (.c 0) (.v 6))) (.ev (.call 66 (.eq (.get 0 (.v 6) 0) (.c 3)) [.i (.get 0 (.v 6) 0),.i (.get 0 (.v 6) 1),.i (.get 0 (.v 6) 2),.i (.get 0 (.v 6) 3),.i (.get 0 (.v 6) 4)] [oB] 8)
 (.ite (.or (.not (.eq (.get 0 (.v 6) 0) (.c 3))) (.not (.v 8))) (.ret [.nil,.i (.c 1)]) (.ev (.b8 9 (.lit [[.inl (.get 0 (.v 6) 0),.inl (.get 0 (.v 6) 1),.inl (.get 0 (.v 6) 2),.inl (.get 0 (.v 6) 3),.inl (.get 0 (.v 6) 4)]])) (.ev (.aH (.le (.add (.len 5) (.len 9)) (.c 3518437208883))) (.ev (.b8 10 (.app 5 9)) (.ev (.aH (r6 (.add (.v 6) (.c 1)))) (.again 43010 [.i (.v 4),.l 10,.i (.add (.v 6) (.c 1))])))))))) (.ret [.l 5,.i (.c 0)])
def t43:aA:=.ite (.lt (.c 6) (.len 0)) (.ret [.nil,.i (.c 1)]) (.ev (.aH (r6 (.add (.c 3) (.len 0)))) (.ev (.aH (.le (.c 3) (.add (.c 3) (.len 0)))) (.ev (.aH (.le (.add (.c 3) (.len 0)) (.c 3518437208883))) (.ev (.b8 1 (.rep (.c 3) [0,0,0,0,0])) (
 .loop 43005 [.l 1,.i (.c 0)] [.s 44 [i6,i6,i6,i6,i6],.c i6] 2 (.ite (.lt (.v 3) (.c 3)) (.ev (.aH (.le (.c 0) (.v 3))) (.ev (.aH (.lt (.v 3) (.len 2))) (.ev (.b8 4 (.set 2 (.v 3) 0 (.inl (.v 3)))) (.ev (.aH (r6 (.add (.v 3) (.c 1)))) (.again 43005 [.l 4,.i (.add (.v 3) (.c 1))]))))) (
 .loop 43010 [.i (.c 0),.l 2,.i (.c 0)] [.c i6,.s 44 [i6,i6,i6,i6,i6],.c i6] 4 JV)))))))
theorem T43:TT PP 43=some ⟨43,t43,(rowOf 43).sub⟩:=by kernel_rfl
def uj(j:Nat):IE:=.ju (.v 96) 0 (.v (17+j)) (.ju (.v 96) 1 (.v (22+j)) (.ju (.v 96) 2 (.v (27+j)) (.ju (.v 96) 3 (.v (32+j)) (.ju (.v 96) 4 (.v (37+j)) (.v (42+j))))))
def afW:BE:=.or (.and (.eq (.v 96) (.c 0)) (.v 47)) (.and (.not (.eq (.v 96) (.c 0))) (.or (.and (.eq (.v 96) (.c 1)) (.v 48)) (.and (.not (.eq (.v 96) (.c 1))) (.or (.and (.eq (.v 96) (.c 2)) (.v 49)) (.and (.not (.eq (.v 96) (.c 2))) (.or (.and (.eq (.v 96) (.c 3)) (.v 50)) (.and (.not (.eq (.v 96) (.c 3))) (.or (.and (.eq (.v 96) (.c 4)) (.v 51)) (.and (.not (.eq (.v 96) (.c 4))) (.v 52))))))))))
def t29:aA:=.loop 29003 [.nil,.i (.c 0)] [.s 44 [i6,i6,i6,i6,i6],.c i6] 95 (.ite (.lt (.v 96) (.c 6)) (.ev (.aH (.le (.c 0) (.v 96))) (.ite afW (.ev (.b8 97 (.lit [[.inl (uj 0),.inl (uj 1),.inl (uj 2),.inl (uj 3),.inl (uj 4)]])) (.ev (.aH (.le (.add (.len 95) (.len 97)) (.c 3518437208883))) (.ev (.b8 98 (.app 95 97)) (.ev (.aH (r6 (.add (.v 96) (.c 1)))) (.again 29003 [.l 98,.i (.add (.v 96) (.c 1))])))))
 (.ev (.aH (r6 (.add (.v 96) (.c 1)))) (.again 29003 [.l 95,.i (.add (.v 96) (.c 1))])))) (.ev (.call 43 (.c true) [.l 95] [.one (.s 44 [i6,i6,i6,i6,i6]),oI] 97) (.ret [.l 97])))
theorem T29:TT PP 29=some ⟨29,t29,(rowOf 29).sub⟩:=by kernel_rfl
theorem p43:gP (rowOf 43).sub=true:=by kernel_rfl
theorem p29:gP (rowOf 29).sub=true:=by kernel_rfl
def five(r:List Int):List Int:=[r.getD 0 0,r.getD 1 0,r.getD 2 0,r.getD 3 0,r.getD 4 0]
def vd:List (List Int):=[[0,0,0,0,0],[1,0,0,0,0],[2,0,0,0,0]]
def OkS(r:List Int):Prop:=r.getD 0 0=3/\Gf 66 [.i (r.getD 0 0),.i (r.getD 1 0),.i (r.getD 2 0),.i (r.getD 3 0),.i (r.getD 4 0)] [.b true]
def R43(U:List (List Int))(rs:List DV):Prop:=∃e,(rs=[.l [],.i e]/\(6<U.length\/∃r∈U,¬ OkS r))\/(rs=[.l (vd++U.map five),.i e]/\U.length<=6/\∀r∈U,OkS r)
theorem abG:lD 66=some ⟨(lD 66).get!.args,[oB],0⟩:=by kernel_rfl
theorem aa7{U:List (List Int)}{rs:List DV}(hg:Gf 43 [.l U] rs):R43 U rs:=by
 refine bF (R:=R43 U) T43 ?_ hg;obtain⟨e,he⟩:∃e,e=a8.au 0 [DV.l U]:=⟨_,rfl⟩;have h0:e 0 = .l U:=by rw[he];rfl
 rw[<- he];refine mC (fun hl=>cj ⟨1,.inl ⟨rfl,.inl ?_⟩⟩) (fun hl=>?_);have hl:(6:Int)<(e 0).list.length:=hl;rw[h0]at hl;have hl:(6:Int)<U.length:=hl;omega;have hl:((e 0).list.length:Int)<=6:=hl;rw[h0]at hl;have hl:(U.length:Int)<=6:=hl;refine bA fun _=>bA fun _=>bA fun _=>oX ?_;obtain⟨e1,mS,o1,v1⟩:=HL e 1 (.l (ew.af e (.rep (.c 3) [0,0,0,0,0])));have v1:e1 1 = .l [[0,0,0,0,0],[0,0,0,0,0],[0,0,0,0,0]]:=v1;rw[<- mS];refine nq (fun vs=>vs=[.l [[0,0,0,0,0],[0,0,0,0,0],[0,0,0,0,0]],.i 0]\/vs=[.l [[0,0,0,0,0],[0,0,0,0,0],[0,0,0,0,0]],.i 1]\/vs=[.l [[0,0,0,0,0],[1,0,0,0,0],[0,0,0,0,0]],.i 2]\/vs=[.l vd,.i 3]) (.inl ?_) ?_;simp only[kQ,pj,DE.af,IE.af,v1,dl];intro ds sq;have step:∀(L L':List (List Int)) (n:Int),ds=[.l L,.i n]->n<3->setAt L n 0 n=L'->([DV.l L',.i (n+1)]=[.l [[0,0,0,0,0],[0,0,0,0,0],[0,0,0,0,0]],.i 0]\/[DV.l L',.i (n+1)]=[.l [[0,0,0,0,0],[0,0,0,0,0],[0,0,0,0,0]],.i 1]\/[DV.l L',.i (n+1)]=[.l [[0,0,0,0,0],[1,0,0,0,0],[0,0,0,0,0]],.i 2]\/[DV.l L',.i (n+1)]=[.l vd,.i 3])->
     (aA.ite (.lt (.v 3) (.c 3)) (.ev (.aH (.le (.c 0) (.v 3))) (.ev (.aH (.lt (.v 3) (.len 2))) (.ev (.b8 4 (.set 2 (.v 3) 0 (.inl (.v 3)))) (.ev (.aH (r6 (.add (.v 3) (.c 1)))) (.again 43005 [.l 4,.i (.add (.v 3) (.c 1))]))))) (.loop 43010 [.i (.c 0),.l 2,.i (.c 0)] [.c i6,.s 44 [i6,i6,i6,i6,i6],.c i6] 4 JV)).par (fun g=>cX (TT PP) XF ((⟨43,t43,(rowOf 43).sub⟩:iU).key g)) (R43 U) [] (e1.au 2 ds) (kO (fun _ _=>True) 43005 (fun vs=>vs=[.l [[0,0,0,0,0],[0,0,0,0,0],[0,0,0,0,0]],.i 0]\/vs=[.l [[0,0,0,0,0],[0,0,0,0,0],[0,0,0,0,0]],.i 1]\/vs=[.l [[0,0,0,0,0],[1,0,0,0,0],[0,0,0,0,0]],.i 2]\/vs=[.l vd,.i 3])):=by
   intro L L' n hd hn hs hG;subst hd;obtain⟨e2,sD,o2,w2⟩:=yK e1 2 [.l L,.i n];have v2:e2 2 = .l L:=w2 0 (by simp);have v3:e2 3 = .i n:=w2 1 (by simp);rw[<- sD];refine HF (by show decide ((e2 3).int<3)=true;rw[v3];exact ja hn) (bA fun _=>bA fun _=>oX (bA fun _=>lC ?_));obtain⟨e3,u9,o3,v4⟩:=HL e2 4 (.l (ew.af e2 (.set 2 (.v 3) 0 (.inl (.v 3)))));rw[<- u9];have v4:e3 4 = .l L':=by rw[v4];show DV.l (setAt (e2 2).list (e2 3).int 0 (e2 3).int)=_;rw[v2,v3];exact congrArg DV.l hs
   simp only[kQ,pj,DE.af,IE.af,v4,o3 3 (by omega),v3,dl,di];exact hG
 rcases sq with h|h|h|h;exact step _ [[0,0,0,0,0],[0,0,0,0,0],[0,0,0,0,0]] 0 h (by omega) rfl (.inr (.inl rfl));exact step _ [[0,0,0,0,0],[1,0,0,0,0],[0,0,0,0,0]] 1 h (by omega) rfl (.inr (.inr (.inl rfl)));exact step _ vd 2 h (by omega) rfl (.inr (.inr (.inr rfl)));subst h;obtain⟨e2,sD,o2,w2⟩:=yK e1 2 [.l vd,.i 3];have v2:e2 2 = .l vd:=w2 0 (by simp);have v3:e2 3 = .i 3:=w2 1 (by simp);rw[<- sD];refine vb (by show decide ((e2 3).int<3)=false;rw[v3];rfl) (nq (fun vs=>∃(c:Int) (i:Nat),vs=[.i c,.l (vd++(U.take i).map five),.i i]/\i<=U.length/\∀j,j<i->OkS (U.getD j [])) ⟨0,0,?_,by omega,fun j hj=>by omega⟩ ?_);simp only[kQ,pj,DE.af,IE.af,v2,dl,List.take_zero,vM];rfl;rintro _ ⟨c,i,rfl,hi,iA⟩;obtain⟨e3,u9,o3,w3⟩:=yK e2 4 [.i c,.l (vd++(U.take i).map five),.i i];have v4:e3 4 = .i c:=w3 0 (by simp);have v5:e3 5 = .l (vd++(U.take i).map five):=w3 1 (by simp);have v6:e3 6 = .i i:=w3 2 (by simp);have u0:e3 0 = .l U:=by rw[o3 0 (by omega),o2 0 (by omega),o1 0 (by omega),h0]
 rw[<- u9];have cl:∀e':aF,(∀k,k<8->e' k=e3 k)->∀j,IE.af e' (.get 0 (.v 6) j)=(U.getD i []).getD j 0:=fun e' o j=>by
   show cellAt (e' 0).list (e' 6).int j=_;rw[o 0 (by omega),o 6 (by omega),u0,v6];unfold cellAt;simp only[dl,di,pz]
 unfold JV;refine mC (fun cM=>bA fun _=>?_) (fun my=>?_);have cM:(e3 6).int<(e3 0).list.length:=cM;rw[v6,u0]at cM;have cM:(i:Int)<U.length:=cM;have Et:i<U.length:=by omega
 have rest:∀e':aF,(∀k,k<8->e' k=e3 k)->(((U.getD i []).getD 0 0=3/\(e' 8).bool=true)↔OkS (U.getD i []))->(aA.ite (.or (.not (.eq (.get 0 (.v 6) 0) (.c 3))) (.not (.v 8))) (.ret [.nil,.i (.c 1)]) (.ev (.b8 9 (.lit [[.inl (.get 0 (.v 6) 0),.inl (.get 0 (.v 6) 1),.inl (.get 0 (.v 6) 2),.inl (.get 0 (.v 6) 3),.inl (.get 0 (.v 6) 4)]])) (.ev (.aH (.le (.add (.len 5) (.len 9)) (.c 3518437208883))) (.ev (.b8 10 (.app 5 9)) (.ev (.aH (r6 (.add (.v 6) (.c 1)))) (.again 43010 [.i (.v 4),.l 10,.i (.add (.v 6) (.c 1))])))))).par (fun g=>cX (TT PP) XF ((⟨43,t43,(rowOf 43).sub⟩:iU).key g)) (R43 U) [] e' (kO (kO (fun _ _=>True) 43005 (fun vs=>vs=[.l [[0,0,0,0,0],[0,0,0,0,0],[0,0,0,0,0]],.i 0]\/vs=[.l [[0,0,0,0,0],[0,0,0,0,0],[0,0,0,0,0]],.i 1]\/vs=[.l [[0,0,0,0,0],[1,0,0,0,0],[0,0,0,0,0]],.i 2]\/vs=[.l vd,.i 3])) 43010 (fun vs=>∃(c:Int) (i:Nat),vs=[.i c,.l (vd++(U.take i).map five),.i i]/\i<=U.length/\∀j,j<i->OkS (U.getD j []))):=by
   intro e' o afX;have cnd:BE.af e' (.or (.not (.eq (.get 0 (.v 6) 0) (.c 3))) (.not (.v 8)))=((!(decide ((U.getD i []).getD 0 0=3)))||(!(e' 8).bool)):=by
     show((!(decide (IE.af e' (.get 0 (.v 6) 0)=3)))||(!(e' 8).bool))=_;rw[cl e' o 0]
   refine eT (fun hc=>cj ⟨1,.inl ⟨rfl,.inr ⟨_,Ah Et,fun hk=>?_⟩⟩⟩) (fun hc=>?_);rw[cnd]at hc;have:=afX.2 hk;rw[ja this.1,this.2]at hc;cases hc;rw[cnd,vF,Bool.not_eq_false',Bool.not_eq_false']at hc;have hk:=afX.1 ⟨jY hc.1,hc.2⟩;refine oX ?_;obtain⟨e4,he4,o4,v9⟩:=HL e' 9 (.l (ew.af e' (.lit [[.inl (.get 0 (.v 6) 0),.inl (.get 0 (.v 6) 1),.inl (.get 0 (.v 6) 2),.inl (.get 0 (.v 6) 3),.inl (.get 0 (.v 6) 4)]])));have v9:e4 9 = .l [five (U.getD i [])]:=by
     rw[v9];show DV.l [[IE.af e' (.get 0 (.v 6) 0),IE.af e' (.get 0 (.v 6) 1),IE.af e' (.get 0 (.v 6) 2),IE.af e' (.get 0 (.v 6) 3),IE.af e' (.get 0 (.v 6) 4)]]=_;rw[cl e' o,cl e' o,cl e' o,cl e' o,cl e' o];rfl
   rw[<- he4];refine bA fun _=>oX ?_;obtain⟨e5,he5,o5,v10⟩:=HL e4 10 (.l (ew.af e4 (.app 5 9)));have v10:e5 10 = .l (vd++(U.take (i+1)).map five):=by
     rw[v10];show DV.l ((e4 5).list++(e4 9).list)=_;rw[v9,o4 5 (by omega),o 5 (by omega),v5,List.take_add_one,qI];show DV.l ((vd++(U.take i).map five)++[five (U.getD i [])])=_;rw[OJ,cm,eN Et];rfl
   rw[<- he5];refine bA fun _=>lC ⟨c,i+1,?_,by omega,fun j hj=>?_⟩;simp only[kQ,pj,DE.af,IE.af,v10,o5 4 (by omega),o5 6 (by omega),o4 4 (by omega),o4 6 (by omega),o 4 (by omega),o 6 (by omega),v4,v6,dl,di];rfl;by_cases ej:j=i;subst ej;exact hk;exact iA j (by omega)
 refine sa (fun hg r g=>?_) (fun hg=>?_);have hg:decide (IE.af e3 (.get 0 (.v 6) 0)=3)=true:=hg;rw[cl e3 (fun _ _=>rfl),aO]at hg;have g:Gf 66 [.i (IE.af e3 (.get 0 (.v 6) 0)),.i (IE.af e3 (.get 0 (.v 6) 1)),.i (IE.af e3 (.get 0 (.v 6) 2)),.i (IE.af e3 (.get 0 (.v 6) 3)),.i (IE.af e3 (.get 0 (.v 6) 4))] r:=aM aX p43 g;rw[cl e3 (fun _ _=>rfl),cl e3 (fun _ _=>rfl),cl e3 (fun _ _=>rfl),cl e3 (fun _ _=>rfl),cl e3 (fun _ _=>rfl)]at g;obtain⟨b,rfl⟩:=Ry abG rfl g;obtain⟨e',EY,o,w⟩:=yK e3 8 [.b b];have w:e' 8 = .b b:=w 0 (by simp);rw[<- EY];refine rest e' o ⟨fun h=>⟨hg,?_⟩,fun h=>⟨hg,?_⟩⟩;have:=h.2;rw[w]at this;have this:b=true:=this;rw[<- this];exact g;have:=g.Ut h.2;injection this with this;rw[w,this];rfl;have hg:decide (IE.af e3 (.get 0 (.v 6) 0)=3)=false:=hg;rw[cl e3 (fun _ _=>rfl),sO]at hg;obtain⟨e',EY,o,w⟩:=yK e3 8 (defs (bP [oB]));rw[<- EY];exact rest e' o ⟨fun h=>absurd h.1 hg,fun h=>absurd h.1 hg⟩;have my:((e3 0).list.length:Int)<=(e3 6).int:=my;rw[v6,u0]at my;have my:(U.length:Int)<=i:=my;obtain rfl:i=U.length:=by omega
 refine abb (rs:=[.l (vd++U.map five),.i 0]) ?_ ⟨0,.inr ⟨rfl,by omega,fun r hr=>?_⟩⟩;simp only[kQ,pj,DE.af,IE.af,v5,dl,List.take_length];obtain⟨j,hj,rfl⟩:=mem_row hr;exact iA j hj
def RV(a:aF)(i:Nat):List Int:=[(a (17+5*i)).int,(a (18+5*i)).int,(a (19+5*i)).int,(a (20+5*i)).int,(a (21+5*i)).int]
def us(a:aF):Nat->List (List Int)
 |0=>[]
 |i+1=>us a i++(if(a (47+i)).bool then [RV a i]else [])
theorem abH:lD 43=some ⟨(lD 43).get!.args,[.one (.s 44 [i6,i6,i6,i6,i6]),oI],0⟩:=by kernel_rfl
theorem H4{a e:aF}(o:∀k,k<95->e k=a k){i:Nat}(h:e 96 = .i i)(hi:i<6)(j:Nat)(hj:j<5):(uj j).af e=(a (17+j+5*i)).int:=by
 have q:∀n:Nat,(IE.v 96).af e=(n:Int)↔i=n:=fun n=>by show(e 96).int=(n:Int)↔_;rw[h];show(i:Int)=n↔_;omega
 unfold uj;simp only[IE.af]at q ⊢;simp only[q];obtain rfl|rfl|rfl|rfl|rfl|rfl:i=0\/i=1\/i=2\/i=3\/i=4\/i=5:=by omega
 rw[if_pos rfl,o _ (by omega)];rfl;rw[if_neg (by omega),if_pos rfl,o _ (by omega),show 22+j=17+j+5*1 by omega];rw[if_neg (by omega),if_neg (by omega),if_pos rfl,o _ (by omega),show 27+j=17+j+5*2 by omega];rw[if_neg (by omega),if_neg (by omega),if_neg (by omega),if_pos rfl,o _ (by omega),show 32+j=17+j+5*3 by omega];rw[if_neg (by omega),if_neg (by omega),if_neg (by omega),if_neg (by omega),if_pos rfl,o _ (by omega),show 37+j=17+j+5*4 by omega];rw[if_neg (by omega),if_neg (by omega),if_neg (by omega),if_neg (by omega),if_neg (by omega),o _ (by omega),show 42+j=17+j+5*5 by omega]
theorem afY{a e:aF}(o:∀k,k<95->e k=a k){i:Nat}(h:e 96 = .i i)(hi:i<6):afW.af e=(a (47+i)).bool:=by
 show((decide ((e 96).int=0)&&(e 47).bool)||((!(decide ((e 96).int=0)))&&((decide ((e 96).int=1)&&(e 48).bool)||((!(decide ((e 96).int=1)))&&((decide ((e 96).int=2)&&(e 49).bool)||((!(decide ((e 96).int=2)))&&((decide ((e 96).int=3)&&(e 50).bool)||((!(decide ((e 96).int=3)))&&((decide ((e 96).int=4)&&(e 51).bool)||((!(decide ((e 96).int=4)))&&(e 52).bool))))))))))=_;rw[h,o 47 (by omega),o 48 (by omega),o 49 (by omega),o 50 (by omega),o 51 (by omega),o 52 (by omega)];simp only[di];obtain rfl|rfl|rfl|rfl|rfl|rfl:i=0\/i=1\/i=2\/i=3\/i=4\/i=5:=by omega
 all_goals simp
theorem Ww{ds rs:List DV}(hl:ds.length=94)(hg:Gf 29 ds rs):∃S e,rs=[.l S]/\Gf 43 [.l (us (a8.au 0 ds) 6)] [.l S,.i e]:=by
 refine bF (R:=fun rs=>∃S e,rs=[DV.l S]/\Gf 43 [.l (us (a8.au 0 ds) 6)] [.l S,.i e]) T29 ?_ hg;obtain⟨a,ha⟩:∃a,a=a8.au 0 ds:=⟨_,rfl⟩;rw[<- ha];refine nq (fun vs=>∃i:Nat,vs=[.l (us a i),.i i]/\i<=6) ⟨0,rfl,by omega⟩ ?_;rintro _ ⟨i,rfl,hi⟩;obtain⟨e1,mS,o1,w1⟩:=yK a 95 [.l (us a i),.i i];have v95:e1 95 = .l (us a i):=w1 0 (by simp);have RP:e1 96 = .i i:=w1 1 (by simp);rw[<- mS];refine mC (fun cM=>bA fun _=>?_) (fun my=>?_);have cM:(e1 96).int<6:=cM;rw[RP]at cM;have cM:(i:Int)<6:=cM;have hi6:i<6:=by omega
 have ho:=afY (a:=a) o1 RP hi6;refine eT (fun hc=>oX ?_) (fun hc=>?_);rw[ho]at hc;obtain⟨e2,sD,o2,v97⟩:=HL e1 97 (.l (ew.af e1 (.lit [[.inl (uj 0),.inl (uj 1),.inl (uj 2),.inl (uj 3),.inl (uj 4)]])));have v97:e2 97 = .l [RV a i]:=by
   rw[v97];show DV.l [[(uj 0).af e1,(uj 1).af e1,(uj 2).af e1,(uj 3).af e1,(uj 4).af e1]]=_;rw[H4 o1 RP hi6 0 (by omega),H4 o1 RP hi6 1 (by omega),H4 o1 RP hi6 2 (by omega),H4 o1 RP hi6 3 (by omega),H4 o1 RP hi6 4 (by omega)];rfl
 rw[<- sD];refine bA fun _=>oX ?_;obtain⟨e3,u9,o3,v98⟩:=HL e2 98 (.l (ew.af e2 (.app 95 97)));have v98:e3 98 = .l (us a (i+1)):=by
   rw[v98];show DV.l ((e2 95).list++(e2 97).list)=_;rw[v97,o2 95 (by omega),v95];show DV.l (us a i++[RV a i])=DV.l (us a i++(if(a (47+i)).bool then [RV a i]else []));rw[hc];rfl
 rw[<- u9];refine bA fun _=>lC ⟨i+1,?_,by omega⟩;simp only[kQ,pj,DE.af,IE.af,v98,o3 96 (by omega),o2 96 (by omega),RP,dl,di];rfl;rw[ho]at hc;refine bA fun _=>lC ⟨i+1,?_,by omega⟩;simp only[kQ,pj,DE.af,IE.af,v95,RP,dl,di];show [DV.l (us a i),.i ((i:Int)+1)]=[.l (us a i++(if(a (47+i)).bool then [RV a i]else [])),_];rw[hc];simp;have my:(6:Int)<=(e1 96).int:=my;rw[RP]at my;have my:(6:Int)<=i:=my;obtain rfl:i=6:=by omega
 refine aY fun r g=>?_;have g:Gf 43 [.l (e1 95).list] r:=aM aX p29 g;rw[v95]at g;have:=aX.kd 43 _ _ _ abH g;obtain⟨S,r0,rfl,k0⟩:=Jo this;obtain⟨x,r1,rfl,k1⟩:=ez k0;obtain rfl:=jR k1;exact cj ⟨S,x,rfl,g⟩
end
section
open Go.Sx Go
theorem Wx{V:List (List Int)}(hV:∀r∈V,mr r)(f:Bool)(p n:Int):mr (om V f p n):=by
 intro j hj;have:(om V f p n).getD j 0=(V.getD n.toNat []).getD j 0:=by
   match j,hj with
   |0,_=>rfl
   |1,_=>rfl
   |2,_=>rfl
   |3,_=>rfl
 rw[this];by_cases h:n.toNat<V.length;exact hV _ (Ah h) j hj;rw[show V.getD n.toNat []=[]by rw[cm,uU (by omega)];rfl];simp
end
section
open Go.Sx Go
theorem p18:gP (rowOf 18).sub=true:=by kernel_rfl
abbrev E18:Nat->List DV->List DV->Prop:=fun g=>cX (TT PP) XF (JJ.key g)
theorem Re{st:List DV}(hP:gY st):∀r∈(a8.au 0 st 60).list,mr r:=by
 have hl:=hP.len;obtain⟨d,hd,ha⟩:=hP.has.at (i:=60) (a:=pA.getD 60 .t) (by kernel_rfl);have ha:A.has (.l 0 (some 256) Qj) d:=ha;have e:a8.au 0 st 60=d:=by rw[fH (by omega),cm,hd];rfl
 rw[e];cases d with
 | l xs=>
   intro r hr j hj;have h1:=wi (ha.2.2 r hr) (j:=j) (x:=-68719476736) (y:=68719476736) (by
     match j,hj with
     |0,_=>rfl
     |1,_=>rfl
     |2,_=>rfl
     |3,_=>rfl)
   rwa[fR]at h1
 |i _=>exact ha.elim
 |b _=>exact ha.elim
end
end Go.Proofs.YtohebioanhliiaaGreatDoor.aN
