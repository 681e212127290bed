/- A triangle has just the pixels whose middles are in it; a triangle cut at a point has them too. -/
import Derived.Test.YtohebioanhliiaaGreatDoorGM2
set_option linter.unusedVariables false
set_option linter.unusedSimpArgs false
set_option maxRecDepth 100000
namespace Go.Proofs.YtohebioanhliiaaGreatDoor.av
open Go.Sx Go
variable{ax ay bZ bx cx cy my:Int}{rs:List DV}{y x:Int}{ds:List DV}{qx qy:Int}{S:List (List Int)}{ex ey X1 f:Int}{k:Nat}{t:Int}{E:Nat->List DV->List DV->Prop}{F:Nat->List DV->Prop}{Ps:List (Int->Prop)}{R:List DV->Prop}{ae:aH}{bP:List DE}{d:Int}{id:Nat}{n ra rc y' α β γ:Int}
theorem Cm{a b:Int}(ha:0<=a)(h:0<a*b):0<b:=by
 apply Int.lt_of_not_ge;intro hb;have:=j7 ha (show 0<=-b by omega);grind
theorem Sc{rb K:Int}(wm:0<=ra)(Zi:0<=rc)(xu:0<=rb)(hS:0<ra+rb+rc)(e:ra*α+rb*β+rc*γ=0)
   (h1:0<K*rc+β-α) (h2:β<0) (h3:0<α):0<K*ra+γ-β/\0<K*rb+α-γ:=by
 constructor;apply Cm Zi;have e1:rc*(K*ra+γ-β)=ra*(K*rc+β-α)+(ra+rb+rc)*(-β):=by grind
 have e2:=j7 wm (show 0<=K*rc+β-α by omega);have e3:=Int.mul_pos hS (show 0 < -β by omega);omega;apply Cm Zi;have e1:rc*(K*rb+α-γ)=rb*(K*rc+β-α)+(ra+rb+rc)*α:=by grind
 have e2:=j7 xu (show 0<=K*rc+β-α by omega);have e3:=Int.mul_pos hS h3;omega
theorem Xq{rb K:Int}(wm:0<=ra)(xu:0<=rb)(Zi:0<=rc)(hS:0<ra+rb+rc)(e:ra*α+rb*β+rc*γ=0)
   (za:α=0->rb=0/\rc=0) (zb:β=0->rc=0/\ra=0) (zc:γ=0->ra=0/\rb=0) :
   ((0<K*rc+β-α/\β<0/\0<α)\/(0<K*ra+γ-β/\γ<0/\0<β)\/(0<K*rb+α-γ/\α<0/\0<γ))↔(0<K*rc+β-α/\0<K*ra+γ-β/\0<K*rb+α-γ):=by
 constructor;rintro(⟨a,b,c⟩|⟨a,b,c⟩|⟨a,b,c⟩);obtain⟨x,y⟩:=Sc wm Zi xu hS e a b c;exact⟨a,x,y⟩;obtain⟨x,y⟩:=Sc (K:=K) (α:=β) (β:=γ) (γ:=α) (ra:=rb) (rb:=rc) (rc:=ra) xu wm Zi (by omega) (by omega) a b c;exact⟨y,a,x⟩;obtain⟨x,y⟩:=Sc (K:=K) (α:=γ) (β:=α) (γ:=β) (ra:=rc) (rb:=ra) (rc:=rb) Zi xu wm (by omega) (by omega) a b c;exact⟨x,y,a⟩;rintro⟨a,b,c⟩;rcases Int.lt_trichotomy α 0 with ha|ha|ha;rcases Int.lt_trichotomy γ 0 with hc|hc|hc;by_cases hb:0<β;exact .inr (.inl ⟨b,hc,hb⟩);exfalso;have nX:β≠0:=by intro h;obtain⟨x,y⟩:=zb h;subst x y h;omega
 have s1:=j7 wm (show 0<=-α-1 by omega);have s2:=j7 xu (show 0<=-β-1 by omega);have s3:=j7 Zi (show 0<=-γ-1 by omega);grind;obtain⟨x,y⟩:=zc hc;subst x y hc;simp only[Int.mul_zero]at a b c ⊢;omega;exact .inr (.inr ⟨c,ha,hc⟩);obtain⟨x,y⟩:=za ha;subst x y ha;simp only[Int.mul_zero]at a b c ⊢;omega;rcases Int.lt_trichotomy β 0 with hb|hb|hb;exact .inl ⟨a,hb,ha⟩;obtain⟨x,y⟩:=zb hb;subst x y hb;simp only[Int.mul_zero]at a b c ⊢;omega;by_cases hc:γ<0;exact .inr (.inl ⟨b,hc,hb⟩);exfalso;have CX:γ≠0:=by intro h;obtain⟨x,y⟩:=zc h;subst x y h;simp only[Int.mul_zero]at a b c;omega
 have s1:=j7 wm (show 0<=α-1 by omega);have s2:=j7 xu (show 0<=β-1 by omega);have s3:=j7 Zi (show 0<=γ-1 by omega);grind
def sw(px py qx qy:Int):Int:=if qy-py<0\/(qy-py=0/\qx-px<0)then 0 else 1
def pP(px py qx qy mx my:Int):Prop:=sw px py qx qy<=Ar px py qx qy mx my
def vI(px py qx qy mx my:Int):Int:=4611686018427387904*Ar px py qx qy mx my-2147483648*(qy-py)-(qx-px)
def re(x y:Int):Prop:=-268435456<=x/\x<=268435456/\-268435456<=y/\y<=268435456
theorem sC{px py mx:Int}(h1:re px py)(h2:re qx qy):pP px py qx qy mx my↔0<vI px py qx qy mx my:=by
 unfold pP vI sw re at *;generalize Ar px py qx qy mx my=t;split<;>omega
theorem Kz{px py mx:Int}(h1:re px py)(h2:re qx qy)(h:vI px py qx qy mx my=0):px=qx/\py=qy:=by
 unfold vI re at *;generalize Ar px py qx qy mx my=t at h;omega
theorem KA{px py mx:Int}:vI qx qy px py mx my = -vI px py qx qy mx my:=by unfold vI Ar;grind
theorem KB{mx:Int}:vI ax ay bx bZ mx my=4611686018427387904*Ar ax ay bx bZ ex ey+vI ex ey bx bZ mx my-vI ex ey ax ay mx my:=by unfold vI Ar;grind
theorem aeQ{mx:Int}:Ar bx bZ cx cy ex ey*vI ex ey ax ay mx my+Ar cx cy ax ay ex ey*vI ex ey bx bZ mx my+Ar ax ay bx bZ ex ey*vI ex ey cx cy mx my=0:=by unfold vI Ar;grind
theorem Co:Ar bx bZ cx cy ex ey+Ar cx cy ax ay ex ey+Ar ax ay bx bZ ex ey=Ar ax ay bx bZ cx cy:=by unfold Ar;grind
def fo(ax ay bx bZ cx cy mx my:Int):Prop:=
 (0<Ar ax ay bx bZ cx cy/\pP ax ay bx bZ mx my/\pP bx bZ cx cy mx my/\pP cx cy ax ay mx my)\/
 (Ar ax ay bx bZ cx cy<0/\pP ax ay cx cy mx my/\pP cx cy bx bZ mx my/\pP bx bZ ax ay mx my)
theorem Sd:Ar bx bZ cx cy ax ay=Ar ax ay bx bZ cx cy:=by unfold Ar;grind
theorem zl:Ar ax ay cx cy bx bZ = - Ar ax ay bx bZ cx cy:=by unfold Ar;grind
theorem ve{mx:Int}:fo bx bZ cx cy ax ay mx my↔fo ax ay bx bZ cx cy mx my:=by
 unfold fo;rw[Sd];constructor;rintro(⟨a,b,c,d⟩|⟨a,b,c,d⟩);exact .inl ⟨a,d,b,c⟩;exact .inr ⟨a,c,d,b⟩;rintro(⟨a,b,c,d⟩|⟨a,b,c,d⟩);exact .inl ⟨a,c,d,b⟩;exact .inr ⟨a,d,b,c⟩
theorem yc{mx:Int}:fo ax ay cx cy bx bZ mx my↔fo ax ay bx bZ cx cy mx my:=by
 unfold fo;rw[zl];constructor;rintro(⟨a,b,c,d⟩|⟨a,b,c,d⟩);exact .inr ⟨by omega,b,c,d⟩;exact .inl ⟨by omega,b,c,d⟩;rintro(⟨a,b,c,d⟩|⟨a,b,c,d⟩);exact .inr ⟨by omega,b,c,d⟩;exact .inl ⟨by omega,b,c,d⟩
theorem AT{mx:Int}(h:0<=Ar ax ay bx bZ cx cy):fo ax ay bx bZ cx cy mx my↔(0<Ar ax ay bx bZ cx cy/\pP ax ay bx bZ mx my/\pP bx bZ cx cy mx my/\pP cx cy ax ay mx my):=by
 unfold fo;constructor;rintro(h|h);exact h;omega;exact .inl
theorem uA{mx:Int}(h:Ar ax ay bx bZ cx cy=0):¬ fo ax ay bx bZ cx cy mx my:=by
 rintro(x|x)<;>omega
theorem Mm{mx:Int}(ha:re ax ay)(hb:re bx bZ)(hc:re cx cy)(he:re ex ey)(hS:0<Ar ax ay bx bZ cx cy)(h1:0<=Ar ax ay bx bZ ex ey)(h2:0<=Ar bx bZ cx cy ex ey)(h3:0<=Ar cx cy ax ay ex ey) :
   (fo ax ay bx bZ cx cy mx my↔(fo ax ay bx bZ ex ey mx my\/fo bx bZ cx cy ex ey mx my\/fo cx cy ax ay ex ey mx my))/\
   ¬ (fo ax ay bx bZ ex ey mx my/\fo bx bZ cx cy ex ey mx my)/\¬ (fo bx bZ cx cy ex ey mx my/\fo cx cy ax ay ex ey mx my)/\¬ (fo ax ay bx bZ ex ey mx my/\fo cx cy ax ay ex ey mx my):=by
 have wi:=Co (ax:=ax) (ay:=ay) (bx:=bx) (bZ:=bZ) (cx:=cx) (cy:=cy) (ex:=ex) (ey:=ey);have lW:=aeQ (ax:=ax) (ay:=ay) (bx:=bx) (bZ:=bZ) (cx:=cx) (cy:=cy) (ex:=ex) (ey:=ey) (mx:=mx) (my:=my);rw[AT (Int.le_of_lt hS),AT h1,AT h2,AT h3];rw[sC ha hb,sC hb hc,sC hc ha,sC hb he,sC he ha,sC hc he,sC he hb,sC ha he,sC he hc];rw[KA (px:=ex) (py:=ey) (qx:=bx) (qy:=bZ),KA (px:=ex) (py:=ey) (qx:=cx) (qy:=cy),KA (px:=ex) (py:=ey) (qx:=ax) (qy:=ay)];have s1:=KB (ax:=ax) (ay:=ay) (bx:=bx) (bZ:=bZ) (ex:=ex) (ey:=ey) (mx:=mx) (my:=my);have s2:=KB (ax:=bx) (ay:=bZ) (bx:=cx) (bZ:=cy) (ex:=ex) (ey:=ey) (mx:=mx) (my:=my);have s3:=KB (ax:=cx) (ay:=cy) (bx:=ax) (bZ:=ay) (ex:=ex) (ey:=ey) (mx:=mx) (my:=my);rw[s1,s2,s3];have za:vI ex ey ax ay mx my=0->Ar cx cy ax ay ex ey=0/\Ar ax ay bx bZ ex ey=0:=by
   intro h;obtain⟨rfl,rfl⟩:=Kz he ha h;unfold Ar;constructor<;>grind
 have zb:vI ex ey bx bZ mx my=0->Ar ax ay bx bZ ex ey=0/\Ar bx bZ cx cy ex ey=0:=by
   intro h;obtain⟨rfl,rfl⟩:=Kz he hb h;unfold Ar;constructor<;>grind
 have zc:vI ex ey cx cy mx my=0->Ar bx bZ cx cy ex ey=0/\Ar cx cy ax ay ex ey=0:=by
   intro h;obtain⟨rfl,rfl⟩:=Kz he hc h;unfold Ar;constructor<;>grind
 have Gt:=Xq (K:=4611686018427387904) h2 h3 h1 (by omega) lW za zb zc;generalize Ar ax ay bx bZ ex ey=rc at *;generalize Ar bx bZ cx cy ex ey=ra at *;generalize Ar cx cy ax ay ex ey=rb at *;generalize vI ex ey ax ay mx my=α at *;generalize vI ex ey bx bZ mx my=β at *;generalize vI ex ey cx cy mx my=γ at *;have n1:rc=0->¬ (0<4611686018427387904*rc+β-α/\β<0/\0<α):=by rintro rfl ⟨a,b,c⟩;omega
 have n2:ra=0->¬ (0<4611686018427387904*ra+γ-β/\γ<0/\0<β):=by rintro rfl ⟨a,b,c⟩;omega
 have n3:rb=0->¬ (0<4611686018427387904*rb+α-γ/\α<0/\0<γ):=by rintro rfl ⟨a,b,c⟩;omega
 refine⟨⟨fun⟨_,a,b,c⟩=>?_,fun h=>⟨hS,?_⟩⟩,fun⟨⟨_,a,b,c⟩,_,d,e,f⟩=>by omega,fun⟨⟨_,a,b,c⟩,_,d,e,f⟩=>by omega,fun⟨⟨_,a,b,c⟩,_,d,e,f⟩=>by omega⟩;rcases Gt.2 ⟨a,b,c⟩with⟨x,y,z⟩|⟨x,y,z⟩|⟨x,y,z⟩;refine .inl ⟨?_,x,by omega,z⟩;apply Int.lt_of_not_ge;intro h;exact n1 (by omega) ⟨x,y,z⟩;refine .inr (.inl ⟨?_,x,by omega,z⟩);apply Int.lt_of_not_ge;intro h;exact n2 (by omega) ⟨x,y,z⟩;refine .inr (.inr ⟨?_,x,by omega,z⟩);apply Int.lt_of_not_ge;intro h;exact n3 (by omega) ⟨x,y,z⟩;apply Gt.1;rcases h with⟨_,x,y,z⟩|⟨_,x,y,z⟩|⟨_,x,y,z⟩;exact .inl ⟨x,by omega,z⟩;exact .inr (.inl ⟨x,by omega,z⟩);exact .inr (.inr ⟨x,by omega,z⟩)
theorem kA{px py mx:Int}(h:pP px py qx qy mx my):0<=Ar px py qx qy mx my:=by
 unfold pP sw at h;split at h<;>omega
theorem Se{mx:Int}(hA:0<Ar ax ay bx bZ cx cy)(h1:0<=Ar ax ay bx bZ mx my)(h2:0<=Ar bx bZ cx cy mx my)(h3:0<=Ar cx cy ax ay mx my):min (min ay bZ) cy<=my/\my<=max (max ay bZ) cy:=by
 have e1:Ar bx bZ cx cy mx my*ay+Ar cx cy ax ay mx my*bZ+Ar ax ay bx bZ mx my*cy=Ar ax ay bx bZ cx cy*my:=by unfold Ar;grind
 have e2:Ar bx bZ cx cy mx my+Ar cx cy ax ay mx my+Ar ax ay bx bZ mx my=Ar ax ay bx bZ cx cy:=Co;generalize Ar ax ay bx bZ mx my=r at *;generalize Ar bx bZ cx cy mx my=p at *;generalize Ar cx cy ax ay mx my=q at *;generalize Ar ax ay bx bZ cx cy=S at *;subst e2;constructor;apply Int.le_of_not_gt;intro h;have k1:=j7 h2 (show 0<=ay-my-1 by omega);have k2:=j7 h3 (show 0<=bZ-my-1 by omega);have k3:=j7 h1 (show 0<=cy-my-1 by omega);grind;apply Int.le_of_not_gt;intro h;have k1:=j7 h2 (show 0<=my-ay-1 by omega);have k2:=j7 h3 (show 0<=my-bZ-1 by omega);have k3:=j7 h1 (show 0<=my-cy-1 by omega);grind
theorem aet{mx:Int}(h:fo ax ay bx bZ cx cy mx my):min (min ay bZ) cy<=my/\my<=max (max ay bZ) cy:=by
 rcases h with⟨a,b,c,d⟩|⟨a,b,c,d⟩;exact Se a (kA b) (kA c) (kA d);have:=Se (ax:=ax) (ay:=ay) (bx:=cx) (bZ:=cy) (cx:=bx) (cy:=bZ) (by rw[zl];omega) (kA b) (kA c) (kA d);omega
def jg(sx sy w h x y:Int):Int:=w*(y*256+128-sy)-h*(x*256+128-sx)
theorem OP{px py:Int}:jg px py (qx-px) (qy-py) x y=Ar px py qx qy (256*x+128) (256*y+128):=by unfold jg Ar;grind
def lr(sx sy w h least y f t:Int):Int×Int:=
 if 0<h then(f,min t ((jg sx sy w h 0 y-least)/(h*256)+1))
 else if h<0 then(max f (0-(jg sx sy w h 0 y-least)/((0-h)*256)),t)
 else if jg sx sy w h 0 y-least<0 then(f,f)else(f,t)
theorem Sg{sx sy w h least:Int}:((lr sx sy w h least y f t).1<=x/\x<(lr sx sy w h least y f t).2)↔((f<=x/\x<t)/\least<=jg sx sy w h x y):=by
 have e:jg sx sy w h x y=jg sx sy w h 0 y-h*256*x:=by unfold jg;grind
 rw[e];unfold lr;generalize jg sx sy w h 0 y=s;split;rename_i hh;have:x<(s-least)/(h*256)+1↔x*(h*256)<=s-least:=by
   rw[Int.lt_add_one_iff];exact Int.le_ediv_iff_mul_le (by omega)
 have e2:x*(h*256)=h*256*x:=by grind
 rw[e2]at this;simp only;omega;split;rename_i hh;have:0-x<=(s-least)/((0-h)*256)↔(0-x)*((0-h)*256)<=s-least:=Int.le_ediv_iff_mul_le (by omega);have e2:(0-x)*((0-h)*256)=h*256*x:=by grind
 rw[e2]at this;simp only;omega;rename_i h1 h2;have:h=0:=by omega
 subst this;simp only[Int.zero_mul,Int.sub_zero];split<;>simp only<;>omega
def lu(px py qx qy:Int):List Int:=[px,py,qx-px,qy-py,sw px py qx qy]
def gW(ax ay bx bZ cx cy:Int):List (List Int):=
 if Ar ax ay bx bZ cx cy<0 then [lu ax ay cx cy,lu cx cy bx bZ,lu bx bZ ax ay]
 else if Ar ax ay bx bZ cx cy=0 then []else [lu ax ay bx bZ,lu bx bZ cx cy,lu cx cy ax ay]
def stepOf(s:List Int)(y:Int)(ft:Int×Int):Int×Int:=lr (s.getD 0 0) (s.getD 1 0) (s.getD 2 0) (s.getD 3 0) (s.getD 4 0) y ft.1 ft.2
def dZ(l:List (List Int))(y f t:Int):Int×Int:=l.foldl (fun ft s=>stepOf s y ft) (f,t)
theorem nO{px py:Int}{ft:Int×Int}:((stepOf (lu px py qx qy) y ft).1<=x/\x<(stepOf (lu px py qx qy) y ft).2)↔((ft.1<=x/\x<ft.2)/\pP px py qx qy (256*x+128) (256*y+128)):=by
 unfold stepOf;have:=Sg (sx:=px) (sy:=py) (w:=qx-px) (h:=qy-py) (least:=sw px py qx qy) (y:=y) (f:=ft.1) (t:=ft.2) (x:=x);rw[OP]at this;exact this
theorem Gk(hA:Ar ax ay bx bZ cx cy≠0):((dZ (gW ax ay bx bZ cx cy) y f t).1<=x/\x<(dZ (gW ax ay bx bZ cx cy) y f t).2)↔((f<=x/\x<t)/\fo ax ay bx bZ cx cy (256*x+128) (256*y+128)):=by
 unfold gW;by_cases h:Ar ax ay bx bZ cx cy<0;rw[if_pos h];simp only[dZ,vY,List.foldl_nil];rw[nO,nO,nO];unfold fo;constructor;rintro⟨⟨⟨a,b⟩,c⟩,d⟩;exact⟨a,.inr ⟨h,b,c,d⟩⟩;rintro⟨a,b|⟨_,b,c,d⟩⟩;omega;exact⟨⟨⟨a,b⟩,c⟩,d⟩;rw[if_neg h,if_neg hA];simp only[dZ,vY,List.foldl_nil];rw[nO,nO,nO];unfold fo;constructor;rintro⟨⟨⟨a,b⟩,c⟩,d⟩;exact⟨a,.inl ⟨by omega,b,c,d⟩⟩;rintro⟨a,⟨_,b,c,d⟩|b⟩;exact⟨⟨⟨a,b⟩,c⟩,d⟩;omega
theorem Xr{mx:Int}(ha:re ax ay)(hb:re bx bZ)(hc:re cx cy)(he:re ex ey)(h:(0<=Ar ax ay bx bZ ex ey/\0<=Ar bx bZ cx cy ex ey/\0<=Ar cx cy ax ay ex ey)\/(Ar ax ay bx bZ ex ey<=0/\Ar bx bZ cx cy ex ey<=0/\Ar cx cy ax ay ex ey<=0)) :
   (fo ax ay bx bZ cx cy mx my↔(fo ex ey ax ay bx bZ mx my\/fo ex ey bx bZ cx cy mx my\/fo ex ey cx cy ax ay mx my))/\
   ¬ (fo ex ey ax ay bx bZ mx my/\fo ex ey bx bZ cx cy mx my)/\¬ (fo ex ey bx bZ cx cy mx my/\fo ex ey cx cy ax ay mx my)/\¬ (fo ex ey ax ay bx bZ mx my/\fo ex ey cx cy ax ay mx my):=by
 have r1:fo ex ey ax ay bx bZ mx my↔fo ax ay bx bZ ex ey mx my:=ve.symm;have r2:fo ex ey bx bZ cx cy mx my↔fo bx bZ cx cy ex ey mx my:=ve.symm;have r3:fo ex ey cx cy ax ay mx my↔fo cx cy ax ay ex ey mx my:=ve.symm;rw[r1,r2,r3];have wi:=Co (ax:=ax) (ay:=ay) (bx:=bx) (bZ:=bZ) (cx:=cx) (cy:=cy) (ex:=ex) (ey:=ey);by_cases h0:Ar ax ay bx bZ cx cy=0;have z1:Ar ax ay bx bZ ex ey=0:=by omega
 have z2:Ar bx bZ cx cy ex ey=0:=by omega
 have z3:Ar cx cy ax ay ex ey=0:=by omega
 have n0:=uA (mx:=mx) (my:=my) h0;have n1:=uA (mx:=mx) (my:=my) z1;have n2:=uA (mx:=mx) (my:=my) z2;have n3:=uA (mx:=mx) (my:=my) z3;exact⟨⟨fun x=>absurd x n0,fun x=>by rcases x with x|x|x;exact absurd x n1;exact absurd x n2;exact absurd x n3⟩,fun x=>n1 x.1,fun x=>n2 x.1,fun x=>n1 x.1⟩;rcases h with⟨h1,h2,h3⟩|⟨h1,h2,h3⟩;exact Mm ha hb hc he (by omega) h1 h2 h3;have s1:Ar ax ay cx cy ex ey = -Ar cx cy ax ay ex ey:=by unfold Ar;grind
 have s2:Ar cx cy bx bZ ex ey = -Ar bx bZ cx cy ex ey:=by unfold Ar;grind
 have s3:Ar bx bZ ax ay ex ey = -Ar ax ay bx bZ ex ey:=by unfold Ar;grind
 have:=Mm (mx:=mx) (my:=my) ha hc hb he (by rw[zl];omega) (by omega) (by omega) (by omega);have q0:fo ax ay cx cy bx bZ mx my↔fo ax ay bx bZ cx cy mx my:=yc;have q1:fo ax ay cx cy ex ey mx my↔fo cx cy ax ay ex ey mx my:=by
   rw[<- ve,yc]
 have q2:fo cx cy bx bZ ex ey mx my↔fo bx bZ cx cy ex ey mx my:=by
   rw[<- ve,yc]
 have q3:fo bx bZ ax ay ex ey mx my↔fo ax ay bx bZ ex ey mx my:=by
   rw[<- ve,yc]
 rw[q0,q1,q2,q3]at this;obtain⟨i,j,k,l⟩:=this;exact⟨⟨fun x=>by rcases i.1 x with y|y|y;exact .inr (.inr y);exact .inr (.inl y);exact .inl y,fun x=>i.2 (by rcases x with y|y|y;exact .inr (.inr y);exact .inr (.inl y);exact .inl y)⟩,fun x=>k ⟨x.2,x.1⟩,fun x=>j ⟨x.2,x.1⟩,fun x=>l ⟨x.2,x.1⟩⟩
def t269:au:=
.ev (.aL (r6 (.sub (.v 7) (.v 0)))) (
.ev (.aL (r6 (.sub (.v 8) (.v 1)))) (
.ite (.or (.lt (.sub (.v 8) (.v 1)) (.c 0)) (.and (.eq (.sub (.v 8) (.v 1)) (.c 0)) (.lt (.sub (.v 7) (.v 0)) (.c 0)))) (
.ret [.i (.v 0),.i (.v 1),.i (.sub (.v 7) (.v 0)),.i (.sub (.v 8) (.v 1)),.i (.c 0)]) (
.ret [.i (.v 0),.i (.v 1),.i (.sub (.v 7) (.v 0)),.i (.sub (.v 8) (.v 1)),.i (.c 1)])))
theorem ai':TT PP 269=some ⟨269,t269,(rowOf 269).sub⟩:=by kernel_rfl
def t270:au:=
.ev (.aL (r6 (.mul (.v 6) (.c 256)))) (
.ev (.aL (r6 (.add (.mul (.v 6) (.c 256)) (.c 128)))) (
.ev (.aL (r6 (.sub (.add (.mul (.v 6) (.c 256)) (.c 128)) (.v 1)))) (
.ev (.aL (r6 (.mul (.v 2) (.sub (.add (.mul (.v 6) (.c 256)) (.c 128)) (.v 1))))) (
.ev (.aL (r6 (.mul (.v 5) (.c 256)))) (
.ev (.aL (r6 (.add (.mul (.v 5) (.c 256)) (.c 128)))) (
.ev (.aL (r6 (.sub (.add (.mul (.v 5) (.c 256)) (.c 128)) (.v 0)))) (
.ev (.aL (r6 (.mul (.v 3) (.sub (.add (.mul (.v 5) (.c 256)) (.c 128)) (.v 0))))) (
.ev (.aL (r6 (.sub (.mul (.v 2) (.sub (.add (.mul (.v 6) (.c 256)) (.c 128)) (.v 1))) (.mul (.v 3) (.sub (.add (.mul (.v 5) (.c 256)) (.c 128)) (.v 0)))))) (
.ret [.i (.sub (.mul (.v 2) (.sub (.add (.mul (.v 6) (.c 256)) (.c 128)) (.v 1))) (.mul (.v 3) (.sub (.add (.mul (.v 5) (.c 256)) (.c 128)) (.v 0))))])))))))))
theorem aja:TT PP 270=some ⟨270,t270,(rowOf 270).sub⟩:=by kernel_rfl
def t271:au:=
.ev (.aL (.sP (.v 1))) (
.ite (.lt (.tmod (.v 0) (.v 1)) (.c 0)) (
.ev (.aL (r6 (.tdiv (.v 0) (.v 1)))) (
.ev (.aL (r6 (.sub (.tdiv (.v 0) (.v 1)) (.c 1)))) (
.ret [.i (.sub (.tdiv (.v 0) (.v 1)) (.c 1))]))) (
.ev (.aL (r6 (.tdiv (.v 0) (.v 1)))) (
.ret [.i (.tdiv (.v 0) (.v 1))])))
theorem ajb:TT PP 271=some ⟨271,t271,(rowOf 271).sub⟩:=by kernel_rfl
def t253:au:=
.ev (.call 270 (.c true) [.i (.v 0),.i (.v 1),.i (.v 2),.i (.v 3),.i (.v 4),.i (.c 0),.i (.v 5)] [oI] 1033) (
.ev (.aL (r6 (.sub (.v 1033) (.v 4)))) (
.ite (.lt (.c 0) (.v 3)) (
.ev (.aL (r6 (.mul (.v 3) (.c 256)))) (
.ev (.call 271 (.c true) [.i (.sub (.v 1033) (.v 4)),.i (.mul (.v 3) (.c 256))] [oI] 1034) (
.ev (.aL (r6 (.add (.v 1034) (.c 1)))) (
.ret [.i (.v 6),.i (.min (.v 7) (.add (.v 1034) (.c 1)))])))) (
.ite (.lt (.v 3) (.c 0)) (
.ev (.aL (r6 (.sub (.c 0) (.v 3)))) (
.ev (.aL (r6 (.mul (.sub (.c 0) (.v 3)) (.c 256)))) (
.ev (.call 271 (.c true) [.i (.sub (.v 1033) (.v 4)),.i (.mul (.sub (.c 0) (.v 3)) (.c 256))] [oI] 1034) (
.ev (.aL (r6 (.sub (.c 0) (.v 1034)))) (
.ret [.i (.max (.v 6) (.sub (.c 0) (.v 1034))),.i (.v 7)]))))) (
.ite (.lt (.sub (.v 1033) (.v 4)) (.c 0)) (
.ret [.i (.v 6),.i (.v 6)]) (
.ret [.i (.v 6),.i (.v 7)])))))
theorem ajc:TT PP 253=some ⟨253,t253,(rowOf 253).sub⟩:=by kernel_rfl
theorem RM:([253,269,270,271,65,252,221].all fun k=>mC (rowOf k).sub)=true:=by kernel_rfl
theorem fe(h:k∈[253,269,270,271,65,252,221]):mC (rowOf k).sub=true:=kG.1 RM k h
theorem Kq(hd:0<d):(n.tmod d<0->n.tdiv d=n/d+1)/\(0<=n.tmod d->n.tdiv d=n/d):=by
 have hs:d.sign=1:=Int.sign_eq_one_of_pos hd;rw[Int.tdiv_eq_ediv,Int.tmod_eq_emod,hs];have h1:=Aj n (show d≠0 by omega);have h2:=yQ n hd;split<;>rename_i h<;>omega
theorem zj(hg:Gf 269 ds rs):rs=[.i (nm ds 0),.i (nm ds 1),.i (nm ds 7-nm ds 0),.i (nm ds 8-nm ds 1),.i (sw (nm ds 0) (nm ds 1) (nm ds 7) (nm ds 8))]:=by
 refine bV (R:=fun rs=>rs=[DV.i (nm ds 0),.i (nm ds 1),.i (nm ds 7-nm ds 0),.i (nm ds 8-nm ds 1),.i (sw (nm ds 0) (nm ds 1) (nm ds 7) (nm ds 8))]) ai' ?_ hg;refine bh fun _=>bh fun _=>lk (fun h=>?_) (fun h=>?_);have h:(decide (nm ds 8-nm ds 1<0)||(decide (nm ds 8-nm ds 1=0)&&decide (nm ds 7-nm ds 0<0)))=true:=h;have h:nm ds 8-nm ds 1<0\/(nm ds 8-nm ds 1=0/\nm ds 7-nm ds 0<0):=by simpa using h
 refine c8 ?_;unfold sw;rw[if_pos h];rfl;have h:(decide (nm ds 8-nm ds 1<0)||(decide (nm ds 8-nm ds 1=0)&&decide (nm ds 7-nm ds 0<0)))=false:=h;have h:¬ (nm ds 8-nm ds 1<0\/(nm ds 8-nm ds 1=0/\nm ds 7-nm ds 0<0)):=fun h'=>by
   have:(decide (nm ds 8-nm ds 1<0)||(decide (nm ds 8-nm ds 1=0)&&decide (nm ds 7-nm ds 0<0)))=true:=by simpa using h'
   rw[this]at h;cases h
 refine c8 ?_;unfold sw;rw[if_neg h];rfl
theorem aek(hg:Gf 270 ds rs):rs=[.i (jg (nm ds 0) (nm ds 1) (nm ds 2) (nm ds 3) (nm ds 5) (nm ds 6))]:=by
 refine bV (R:=fun rs=>rs=[DV.i (jg (nm ds 0) (nm ds 1) (nm ds 2) (nm ds 3) (nm ds 5) (nm ds 6))]) aja ?_ hg;exact bh fun _=>bh fun _=>bh fun _=>bh fun _=>bh fun _=>bh fun _=>bh fun _=>bh fun _=>bh fun _=>c8 rfl
theorem Mh(hd:0<d)(hg:Gf 271 [.i n,.i d] rs):rs=[.i (n/d)]:=by
 refine bV (R:=fun rs=>rs=[DV.i (n/d)]) ajb ?_ hg;obtain⟨f1,f2⟩:=Kq (n:=n) hd;refine bh fun _=>gb (fun h=>?_) (fun h=>?_);have h:n.tmod d<0:=h;refine bh fun _=>bh fun _=>c8 ?_;show [DV.i (n.tdiv d-1)]=_;rw[f1 h,show n/d+1-1=n/d by omega];have h:0<=n.tmod d:=h;refine bh fun _=>c8 ?_;show [DV.i (n.tdiv d)]=_;rw[f2 h]
theorem ael(hg:Gf 253 ds rs):rs=[.i (lr (nm ds 0) (nm ds 1) (nm ds 2) (nm ds 3) (nm ds 4) (nm ds 5) (nm ds 6) (nm ds 7)).1,.i (lr (nm ds 0) (nm ds 1) (nm ds 2) (nm ds 3) (nm ds 4) (nm ds 5) (nm ds 6) (nm ds 7)).2]:=by
 refine bV (R:=fun rs=>rs=[DV.i (lr (nm ds 0) (nm ds 1) (nm ds 2) (nm ds 3) (nm ds 4) (nm ds 5) (nm ds 6) (nm ds 7)).1,.i (lr (nm ds 0) (nm ds 1) (nm ds 2) (nm ds 3) (nm ds 4) (nm ds 5) (nm ds 6) (nm ds 7)).2]) ajc ?_ hg;refine bp fun r1 g1=>?_;have g1:=aP bD (fe (by simp)) g1;have e1:r1=[.i (jg (nm ds 0) (nm ds 1) (nm ds 2) (nm ds 3) 0 (nm ds 5))]:=aek g1;subst e1;unfold lr;refine bh fun _=>gb (fun h=>?_) (fun h=>?_);have h:0<nm ds 3:=h;rw[if_pos h];refine bh fun _=>bp fun r2 g2=>?_;have g2:Gf 271 [.i (jg (nm ds 0) (nm ds 1) (nm ds 2) (nm ds 3) 0 (nm ds 5)-nm ds 4),.i (nm ds 3*256)] r2:=aP bD (fe (by simp)) g2;obtain rfl:=Mh (by omega) g2;exact bh fun _=>c8 rfl;have h:nm ds 3<=0:=h;rw[if_neg (by omega)];refine gb (fun h2=>?_) (fun h2=>?_);have h2:nm ds 3<0:=h2;rw[if_pos h2];refine bh fun _=>bh fun _=>bp fun r2 g2=>?_;have g2:Gf 271 [.i (jg (nm ds 0) (nm ds 1) (nm ds 2) (nm ds 3) 0 (nm ds 5)-nm ds 4),.i ((0-nm ds 3)*256)] r2:=aP bD (fe (by simp)) g2;obtain rfl:=Mh (by omega) g2;exact bh fun _=>c8 rfl;have h2:0<=nm ds 3:=h2;rw[if_neg (by omega)];refine gb (fun h3=>?_) (fun h3=>?_);have h3:jg (nm ds 0) (nm ds 1) (nm ds 2) (nm ds 3) 0 (nm ds 5)-nm ds 4<0:=h3;rw[if_pos h3];exact c8 rfl;have h3:(0:Int)<=jg (nm ds 0) (nm ds 1) (nm ds 2) (nm ds 3) 0 (nm ds 5)-nm ds 4:=h3;rw[if_neg (by omega)];exact c8 rfl
theorem Xc(hg:Gf 252 ds rs):rs=[.l (gW (nm ds 0) (nm ds 1) (nm ds 7) (nm ds 8) (nm ds 14) (nm ds 15))]:=by
 refine bV (R:=fun rs=>rs=[DV.l (gW (nm ds 0) (nm ds 1) (nm ds 7) (nm ds 8) (nm ds 14) (nm ds 15))]) aem ?_ hg;refine bp fun r1 g1=>?_;have g1:=aP bD (fe (by simp)) g1;obtain⟨e1,_⟩:=zk g1;have e1:r1=[.i (ar ds)]:=e1;subst e1;unfold gW;refine gb (fun h=>?_) (fun h=>Gj (fun h2=>?_) (fun h2=>?_));have h:ar ds<0:=h;rw[if_pos h];refine bp fun r2 g2=>?_;have g2:=aP bD (fe (by simp)) g2;have e2:=zj g2;have e2:r2=(lu (nm ds 0) (nm ds 1) (nm ds 14) (nm ds 15)).map DV.i:=e2;subst e2;refine bp fun r3 g3=>?_;have g3:=aP bD (fe (by simp)) g3;have e3:=zj g3;have e3:r3=(lu (nm ds 14) (nm ds 15) (nm ds 7) (nm ds 8)).map DV.i:=e3;subst e3;refine bp fun r4 g4=>?_;have g4:=aP bD (fe (by simp)) g4;have e4:=zj g4;have e4:r4=(lu (nm ds 7) (nm ds 8) (nm ds 0) (nm ds 1)).map DV.i:=e4;subst e4;exact xV (c8 rfl);have h2:ar ds=0:=h2;rw[if_neg (by show ¬ ar ds<0;omega),if_pos h2];exact c8 rfl;have h:(0:Int)<=ar ds:=h;have h2:ar ds≠0:=h2;rw[if_neg (by show ¬ ar ds<0;omega),if_neg h2];refine bp fun r2 g2=>?_;have g2:=aP bD (fe (by simp)) g2;have e2:=zj g2;have e2:r2=(lu (nm ds 0) (nm ds 1) (nm ds 7) (nm ds 8)).map DV.i:=e2;subst e2;refine bp fun r3 g3=>?_;have g3:=aP bD (fe (by simp)) g3;have e3:=zj g3;have e3:r3=(lu (nm ds 7) (nm ds 8) (nm ds 14) (nm ds 15)).map DV.i:=e3;subst e3;refine bp fun r4 g4=>?_;have g4:=aP bD (fe (by simp)) g4;have e4:=zj g4;have e4:r4=(lu (nm ds 14) (nm ds 15) (nm ds 0) (nm ds 1)).map DV.i:=e4;subst e4;exact xV (c8 rfl)
theorem Zb{sV:Nat}{G G':List DV->Prop}(cV:Nat.beq id sV=false)(h:G (bP.map (DE.af ae))):(au.again id bP).par E R Ps ae (qv (qv F id G) sV G'):=by
 show qv (qv F id G) sV G' id (bP.map (DE.af ae));rw[sA (fun e=>by subst e;rw[Nat.beq_refl]at cV;cases cV),uz];exact h
def oO(S:List (List Int))(X0 X1 y:Int):List (List Int):=
 if(dZ S y X0 X1).1<(dZ S y X0 X1).2 then [[y,(dZ S y X0 X1).1,(dZ S y X0 X1).2]]else []
def jL(S:List (List Int))(X0 X1 lo:Int)(n:Nat):List (List Int):=(List.range n).flatMap fun i:Nat=>oO S X0 X1 (lo+(i:Int))
theorem pN{X0 lo:Int}{n:Nat}:jL S X0 X1 lo (n+1)=jL S X0 X1 lo n++oO S X0 X1 (lo+n):=by
 unfold jL;rw[List.range_succ,List.flatMap_append];simp
theorem Kr(hk:k<S.length):dZ (S.take (k+1)) y f t=stepOf (S.getD k []) y (dZ (S.take k) y f t):=by
 unfold dZ;rw[List.take_add_one,List.foldl_append,eT hk,cT,eT hk];rfl
abbrev sdD(ds:List DV):List (List Int):=gW (nm ds 0) (nm ds 1) (nm ds 7) (nm ds 8) (nm ds 14) (nm ds 15)
theorem OG(h:Ar ax ay bx bZ cx cy≠0):(gW ax ay bx bZ cx cy).length=3:=by
 unfold gW;split;rfl
 first|rfl|(rw[if_neg h];rfl)
theorem Xe(hA:ar ds≠0)(hr:∀r,Gf 65 [.i (nm ds 21),.i (nm ds 22),.i (nm ds 23),.i (nm ds 24)] r->r=[.b true])(hg:Gf 221 ds rs) :
   ∃n:Nat,rs=[.l (jL (sdD ds) (nm ds 21) (nm ds 23) (max (nm ds 22) (min (min (nm ds 1) (nm ds 8)) (nm ds 15)/256-1)) n)]/\min (nm ds 24) (max (max (nm ds 1) (nm ds 8)) (nm ds 15)/256+2)<=max (nm ds 22) (min (min (nm ds 1) (nm ds 8)) (nm ds 15)/256-1)+n/\
     (n=0\/max (nm ds 22) (min (min (nm ds 1) (nm ds 8)) (nm ds 15)/256-1)+n<=min (nm ds 24) (max (max (nm ds 1) (nm ds 8)) (nm ds 15)/256+2)):=by
 obtain⟨lo,tm⟩:∃lo,lo=max (nm ds 22) (min (min (nm ds 1) (nm ds 8)) (nm ds 15)/256-1):=⟨_,rfl⟩;obtain⟨hi,Ld⟩:∃hi,hi=min (nm ds 24) (max (max (nm ds 1) (nm ds 8)) (nm ds 15)/256+2):=⟨_,rfl⟩;obtain⟨S,hS⟩:∃S,S=sdD ds:=⟨_,rfl⟩;have hL:S.length=3:=by rw[hS];exact OG hA
 rw[<- tm,<- Ld,<- hS];refine bV (R:=fun rs=>∃n:Nat,rs=[DV.l (jL S (nm ds 21) (nm ds 23) lo n)]/\hi<=lo+n/\(n=0\/lo+n<=hi)) aen ?_ hg;refine bp fun r1 g1=>?_;have g1:=aP bD (fe (by simp)) g1;have e1:=Xc g1;have e1:r1=[.l (sdD ds)]:=e1;rw[<- hS]at e1;subst e1;obtain⟨e1,xf,o1,w1⟩:=oY (bj.aB 0 ds) 29 [.l S];rw[<- xf];have v29:e1 29 = .l S:=w1 0 (by simp);have nz:(BE.eq (.len 29) (.c 0)).af e1=false:=by
   show decide (((e1 29).list.length:Int)=0)=false;rw[v29];show decide ((S.length:Int)=0)=false;rw[hL];rfl
 refine LY (fun _ r2 g2=>?_) (fun hf=>absurd (show(!(BE.eq (.len 29) (.c 0)).af e1)=false from hf) (by rw[nz];decide));have g2:=aP bD (fe (by simp)) g2;have g2:Gf 65 [.i (e1 21).int,.i (e1 22).int,.i (e1 23).int,.i (e1 24).int] r2:=g2;rw[o1 21 (by omega),o1 22 (by omega),o1 23 (by omega),o1 24 (by omega)]at g2;obtain rfl:=hr _ g2;obtain⟨e2,I2,o2,w2⟩:=oY e1 30 [.b true];rw[<- I2];have aeo:e2 29 = .l S:=by rw[o2 29 (by omega)];exact v29
 have v30:e2 30 = .b true:=w2 0 (by simp);have Ks:∀k,k<29->e2 k=bj.aB 0 ds k:=fun k hk=>by rw[o2 k (by omega),o1 k hk]
 refine lk (fun hc=>?_) (fun _=>?_);have hc:(decide (((e2 29).list.length:Int)=0) || !(e2 30).bool)=true:=hc;rw[aeo,v30]at hc;have hc:(decide ((S.length:Int)=0)||false)=true:=hc;rw[hL]at hc;cases hc;refine bh fun _=>bh fun _=>?_;have loE:(IE.max (.v 22) (.sub (.ediv (.min (.min (.v 1) (.v 8)) (.v 15)) 256) (.c 1))).af e2=lo:=by
   show max (e2 22).int (min (min (e2 1).int (e2 8).int) (e2 15).int/256-1)=lo;rw[Ks 22 (by omega),Ks 1 (by omega),Ks 8 (by omega),Ks 15 (by omega),tm]
 refine ll (fun vs=>∃n:Nat,vs=[.l (jL S (nm ds 21) (nm ds 23) lo n),.i (lo+n)]/\(n=0\/lo+n<=hi)) ⟨0,?_,.inl rfl⟩ ?_;show [DV.l [],.i ((IE.max (.v 22) (.sub (.ediv (.min (.min (.v 1) (.v 8)) (.v 15)) 256) (.c 1))).af e2)]=_;rw[loE];simp[jL];rintro _ ⟨n,rfl,hn⟩;obtain⟨e3,I5,o3,w3⟩:=oY e2 31 [.l (jL S (nm ds 21) (nm ds 23) lo n),.i (lo+n)];rw[<- I5];have v31:e3 31 = .l (jL S (nm ds 21) (nm ds 23) lo n):=w3 0 (by simp);have v32:e3 32 = .i (lo+n):=w3 1 (by simp);have I6:∀k,k<29->e3 k=bj.aB 0 ds k:=fun k hk=>by rw[o3 k (by omega),Ks k hk]
 have aep:e3 29 = .l S:=by rw[o3 29 (by omega)];exact aeo
 refine gb (fun cu=>?_) (fun ng=>?_)
 rotate_left
 refine c8 ⟨n,?_,?_,hn⟩;show [DV.l (e3 31).list]=_;rw[v31];rfl;have ng:min (e3 24).int (max (max (e3 1).int (e3 8).int) (e3 15).int/256+2)<=(e3 32).int:=ng;rw[I6 24 (by omega),I6 1 (by omega),I6 8 (by omega),I6 15 (by omega),v32]at ng;rw[Ld];exact ng;have cu:(e3 32).int<min (e3 24).int (max (max (e3 1).int (e3 8).int) (e3 15).int/256+2):=cu;rw[I6 24 (by omega),I6 1 (by omega),I6 8 (by omega),I6 15 (by omega),v32]at cu;have cu:lo+n<hi:=by rw[Ld];exact cu
 refine ll (fun vs=>∃k:Nat,k<=3/\vs=[.i (dZ (S.take k) (lo+n) (nm ds 21) (nm ds 23)).1,.i (dZ (S.take k) (lo+n) (nm ds 21) (nm ds 23)).2,.i k]) ⟨0,by omega,?_⟩ ?_;show [DV.i (e3 21).int,.i (e3 23).int,.i 0]=_;rw[I6 21 (by omega),I6 23 (by omega)];rfl;rintro _ ⟨k,hk,rfl⟩;obtain⟨f,hf⟩:∃f,f=(dZ (S.take k) (lo+n) (nm ds 21) (nm ds 23)).1:=⟨_,rfl⟩;obtain⟨t,ht⟩:∃t,t=(dZ (S.take k) (lo+n) (nm ds 21) (nm ds 23)).2:=⟨_,rfl⟩;have yV:dZ (S.take k) (lo+n) (nm ds 21) (nm ds 23)=(f,t):=by rw[hf,ht]
 rw[<- hf,<- ht];obtain⟨e4,RN,o4,w4⟩:=oY e3 33 [.i f,.i t,.i k];rw[<- RN];have v33:e4 33 = .i f:=w4 0 (by simp);have v34:e4 34 = .i t:=w4 1 (by simp);have v35:e4 35 = .i k:=w4 2 (by simp);have abf:e4 29 = .l S:=by rw[o4 29 (by omega)];exact aep
 have aeq:e4 31 = .l (jL S (nm ds 21) (nm ds 23) lo n):=by rw[o4 31 (by omega)];exact v31
 have abg:e4 32 = .i (lo+n):=by rw[o4 32 (by omega)];exact v32
 refine gb (fun GX=>?_) (fun GX=>?_);have GX:(e4 35).int<((e4 29).list.length:Int):=GX;rw[v35,abf]at GX;have GX:(k:Int)<(S.length:Int):=GX;refine bh fun _=>bp fun r5 g5=>?_;have g5:=aP bD (fe (by simp)) g5;have e5:=ael g5;have get:∀j,(IE.get 29 (.v 35) j).af e4=(S.getD k []).getD j 0:=fun j=>by
   show cellAt (e4 29).list (e4 35).int j=_;rw[abf,v35];show cellAt S (k:Int) j=_;unfold cellAt;rfl
 have e5:r5=[.i (lr ((IE.get 29 (.v 35) 0).af e4) ((IE.get 29 (.v 35) 1).af e4) ((IE.get 29 (.v 35) 2).af e4) ((IE.get 29 (.v 35) 3).af e4) ((IE.get 29 (.v 35) 4).af e4) (e4 32).int (e4 33).int (e4 34).int).1,.i (lr ((IE.get 29 (.v 35) 0).af e4) ((IE.get 29 (.v 35) 1).af e4) ((IE.get 29 (.v 35) 2).af e4) ((IE.get 29 (.v 35) 3).af e4) ((IE.get 29 (.v 35) 4).af e4) (e4 32).int (e4 33).int (e4 34).int).2]:=e5;rw[get,get,get,get,get,abg,v33,v34]at e5;subst e5;refine bh fun _=>vb ⟨k+1,by omega,?_⟩;rw[Kr (by omega),yV];show [_,_,DV.i ((e4 35).int+1)]=_;rw[v35];rfl;have GX:((e4 29).list.length:Int)<=(e4 35).int:=GX;rw[v35,abf]at GX;have GX:(S.length:Int)<=(k:Int):=GX;have hk3:k=3:=by omega
 have Zc:dZ S (lo+n) (nm ds 21) (nm ds 23)=(f,t):=by
   rw[<- yV,oS (by omega)]
 refine gb (fun h1=>?_) (fun h1=>?_);have h1:(e4 33).int<(e4 34).int:=h1;rw[v33,v34]at h1;have h1:f<t:=h1;have sp:oO S (nm ds 21) (nm ds 23) (lo+n)=[[lo+n,f,t]]:=by
   unfold oO;rw[Zc,if_pos h1]
 refine xV (bh fun _=>xV (bh fun _=>?_));refine Zb (by decide) ⟨n+1,?_,.inr (by omega)⟩;rw[pN,sp];show [DV.l ((e4 31).list++[[(e4 32).int,(e4 33).int,(e4 34).int]]),.i ((e4 32).int+1)]=_;rw[aeq,abg,v33,v34];show [DV.l _,.i (lo+n+1)]=[DV.l _,.i (lo+((n+1:Nat):Int))];rw[show lo+((n+1:Nat):Int)=lo+n+1 by omega];rfl;have h1:(e4 34).int<=(e4 33).int:=h1;rw[v33,v34]at h1;have h1:t<=f:=h1;have sp:oO S (nm ds 21) (nm ds 23) (lo+n)=[]:=by
   unfold oO;rw[Zc,if_neg (by show ¬ f<t;omega)]
 refine bh fun _=>?_;refine Zb (by decide) ⟨n+1,?_,.inr (by omega)⟩;rw[pN,sp,qH];show [DV.l (e4 31).list,.i ((e4 32).int+1)]=_;rw[aeq,abg];show [DV.l _,.i (lo+n+1)]=[DV.l _,.i (lo+((n+1:Nat):Int))];rw[show lo+((n+1:Nat):Int)=lo+n+1 by omega];rfl
def ya(r:List Int):List (Int×Int):=(List.range (r.getD 2 0-r.getD 1 0).toNat).map fun i:Nat=>(r.getD 1 0+(i:Int),r.getD 0 0)
def posOf(out:List (List Int)):List (Int×Int):=out.map fun r=>(r.getD 0 0,r.getD 1 0)
def Mi(r:List Int):Prop:=∃x y z c0 c1 c2 c3,r=[x,y,z,c0,c1,c2,c3,64]/\0<=z/\z<=16777215
theorem Io(h:F id (bP.map (DE.af ae))):(au.again id bP).par E R Ps ae F:=h
theorem OH{sp:List (List Int)}(hk:k<sp.length):(sp.take (k+1)).flatMap ya=(sp.take k).flatMap ya++ya (sp.getD k []):=by
 rw[List.take_add_one,List.flatMap_append,eT hk,cT,eT hk];simp
theorem abh{sp:List (List Int)}(Lx:∀r,Gf 221 ((iv 0 21++iv 22 4).map (DE.af (bj.aB 0 ds))) r->r=[.l sp])(GR:sp.length<=1000)(hb:∀r∈sp,0<=r.getD 1 0/\r.getD 2 0<=1000)(hg:Gf 177 ds rs):∃out,rs=[.l out]/\posOf out=sp.flatMap ya/\∀r∈out,Mi r:=by
 refine bV (R:=fun rs=>∃out,rs=[DV.l out]/\posOf out=sp.flatMap ya/\∀r∈out,Mi r) aer ?_ hg;unfold t177;refine bp fun r30 VF=>?_;have VF:=aP bD (bR (by simp)) VF;obtain rfl:=Lx _ VF;obtain⟨e1,xf,o1,w1⟩:=oY (bj.aB 0 ds) 30 [.l sp];rw[<- xf];have v30:e1 30 = .l sp:=w1 0 (by simp);refine Gj (fun h0=>?_) (fun _=>?_);have h0:((e1 30).list.length:Int)=0:=h0;rw[v30]at h0;have h0:(sp.length:Int)=0:=h0;have:sp=[]:=C1 (by omega);subst this;exact c8 ⟨[],rfl,rfl,fun r hr=>(by cases hr)⟩;refine bp fun Xf g31=>?_;obtain⟨e2,I2,o2,w2⟩:=oY e1 31 Xf;rw[<- I2];refine bp fun r53 g53=>?_;obtain⟨e3,I5,o3,w3⟩:=oY e2 53 r53;rw[<- I5];have ajd:e3 30 = .l sp:=by rw[o3 _ (by omega),o2 _ (by omega)];exact v30
 refine ll (fun vs=>∃(out:List (List Int)) (k:Nat),vs=[.l out,.i k]/\k<=sp.length/\posOf out=(sp.take k).flatMap ya/\∀r∈out,Mi r) ⟨[],0,rfl,Nat.zero_le _,rfl,fun r hr=>(by cases hr)⟩ ?_;rintro _ ⟨out,k,rfl,hk,kJ,ho⟩;obtain⟨e4,RN,o4,w4⟩:=oY e3 89 [.l out,.i k];rw[<- RN];have v89:e4 89 = .l out:=w4 0 (by simp);have v90:e4 90 = .i k:=w4 1 (by simp);have abi:e4 30 = .l sp:=by rw[o4 _ (by omega)];exact ajd
 refine gb (fun cu=>?_) (fun ng=>?_)
 rotate_left
 have ng:((e4 30).list.length:Int)<=(e4 90).int:=ng;rw[abi,v90]at ng;have ng:(sp.length:Int)<=(k:Int):=ng;refine c8 ⟨out,?_,?_,ho⟩;show [DV.l (e4 89).list]=_;rw[v89];rfl;rw[kJ,oS (by omega)];have cu:(e4 90).int<((e4 30).list.length:Int):=cu;rw[abi,v90]at cu;have cu:(k:Int)<(sp.length:Int):=cu;have GX:k<sp.length:=by omega
 obtain⟨S,hS⟩:∃S,S=sp.getD k []:=⟨_,rfl⟩;have hSm:S∈sp:=by
   rw[hS,cT,eT GX];exact List.getElem_mem _
 have hSb:=hb S hSm;refine bh fun _=>ll (fun _=>True) trivial ?_;rintro vs5 _;obtain⟨e5,he5,o5,w5⟩:=oY e4 93 vs5;rw[<- he5];refine gb (fun _=>bh fun _=>bp fun r g=>Io (by rw[uz];trivial)) (fun _=>?_);have Xg:∀(e:aH) j,(∀k,k<93->e k=e4 k)->(IE.get 30 (.v 90) j).af e=S.getD j 0:=fun e j he=>by
   show cellAt (e 30).list (e 90).int j=_;rw[he 30 (by omega),he 90 (by omega),abi,v90,hS];rfl
 refine ll (fun vs=>∃(Ck:List (List Int)) (m:Nat) (t:List DV),vs = .l Ck :: .i (S.getD 1 0+m)::t/\(m=0\/S.getD 1 0+m<=S.getD 2 0)/\posOf Ck=posOf out++(List.range m).map (fun i:Nat=>(S.getD 1 0+(i:Int),S.getD 0 0))/\∀r∈Ck,Mi r) ⟨out,0,List.map (DE.af e5) [.i (.v 94),.i (.v 95),.i (.v 96),.i (.v 97),.i (.v 98),.i (.v 99),.i (.v 100),.i (.v 101),.i (.v 102),.i (.v 103)],?_,.inl rfl,by simp,ho⟩ ?_;show DV.l (e5 89).list :: .i ((IE.get 30 (.v 90) 1).af e5)::_=_;rw[o5 89 (by omega),v89,Xg e5 1 o5,show S.getD 1 0+((0:Nat):Int)=S.getD 1 0 by omega];rfl;rintro _ ⟨Ck,m,t6,rfl,hm,Hf,p9⟩;obtain⟨e6,Xh,o6,w6⟩:=oY e5 104 (.l Ck :: .i (S.getD 1 0+m)::t6);rw[<- Xh];have OI:e6 104 = .l Ck:=w6 0 (by simp);have v105:e6 105 = .i (S.getD 1 0+m):=w6 1 (by simp);have o64:∀k,k<93->e6 k=e4 k:=fun k hk=>by rw[o6 k (by omega),o5 k hk]
 refine gb (fun hx=>?_) (fun hx=>?_)
 rotate_left
 have hx:(IE.get 30 (.v 90) 2).af e6<=(e6 105).int:=hx;rw[Xg e6 2 o64,v105]at hx;have hx:S.getD 2 0<=S.getD 1 0+m:=hx;refine Io ?_;rw[sA (by decide),sA (by decide),uz];refine⟨Ck,k+1,?_,by omega,?_,p9⟩;show [DV.l (e6 104).list,.i (IntKind.i64.wrap ((e6 90).int+1))]=_;rw[OI,o64 90 (by omega),v90];show [DV.l Ck,.i (IntKind.i64.wrap ((k:Int)+1))]=_;rw[q9 (show iU ((k:Int)+1)by constructor<;>omega)];rfl;rw[OH GX,<- hS,Hf,kJ];unfold ya;rw[show(S.getD 2 0-S.getD 1 0).toNat=m by omega];have hx:(e6 105).int<(IE.get 30 (.v 90) 2).af e6:=hx;rw[Xg e6 2 o64,v105]at hx;have hx:S.getD 1 0+m<S.getD 2 0:=hx;refine bp fun r7 g7=>?_;obtain⟨e7,he7,o7,w7⟩:=oY e6 117 r7;rw[<- he7];refine ll (fun _=>True) trivial ?_;rintro vs8 _;obtain⟨e8,he8,o8,w8⟩:=oY e7 118 vs8;rw[<- he8];refine gb (fun _=>bh fun _=>bh fun _=>bh fun _=>bp fun r g=>Io (by rw[uz];trivial)) (fun _=>?_);have o86:∀k,k<117->e8 k=e6 k:=fun k hk=>by rw[o8 k (by omega),o7 k hk]
 refine xV (bh fun _=>xV ?_);obtain⟨e9,Xi,o9,w9⟩:=Ip e8 123 (.l (dw.af e8 (.lit [[.inl (.v 105),.inl (.get 30 (.v 90) 0),.inl (.min (.max (.wrap .i64 (.add (.v 117) (.v 21))) (.c 0)) (.c 16777215)),.inl (.v 119),.inl (.v 120),.inl (.v 121),.inl (.v 122),.inl (.c 64)]])));rw[<- Xi];obtain⟨uu,Kt,OJ,w10⟩:=Ip e9 124 (.l (dw.af e9 (.app 104 123)));rw[<- Kt];obtain⟨z,hz⟩:∃z,z=min (max (IntKind.i64.wrap ((e8 117).int+(e8 21).int)) 0) 16777215:=⟨_,rfl⟩;have v124:uu 124 = .l (Ck++[[S.getD 1 0+m,S.getD 0 0,z,(e8 119).int,(e8 120).int,(e8 121).int,(e8 122).int,64]]):=by
   rw[w10];show DV.l ((e9 104).list++(e9 123).list)=_;rw[o9 104 (by omega),o86 104 (by omega),OI,w9];show DV.l (Ck++[[(e8 105).int,(IE.get 30 (.v 90) 0).af e8,_,_,_,_,_,64]])=_;rw[o86 105 (by omega),v105,Xg e8 0 (fun k hk=>by rw[o86 k (by omega),o64 k hk]),hz];rfl
 refine ll (fun _=>True) trivial ?_;rintro aje _;obtain⟨CY,RP,o11,w11⟩:=oY uu 125 aje;rw[<- RP];refine gb (fun _=>bh fun _=>bp fun r g=>Io (by rw[uz];trivial)) (fun _=>?_);refine Io ?_;rw[sA (by decide),sA (by decide),uz];refine⟨Ck++[[S.getD 1 0+m,S.getD 0 0,z,(e8 119).int,(e8 120).int,(e8 121).int,(e8 122).int,64]],m+1,List.map (DE.af CY) [.i (.v 126),.i (.v 127),.i (.v 128),.i (.v 129),.i (.v 130),.i (.v 131),.i (.v 132),.i (.v 133),.i (.v 134),.i (.v 135)],?_,.inr (by omega),?_,?_⟩;show DV.l (CY 124).list :: .i (IntKind.i64.wrap ((CY 105).int+1))::_=_;rw[o11 124 (by omega),v124,o11 105 (by omega),OJ 105 (by omega),o9 105 (by omega),o86 105 (by omega),v105];show DV.l _::DV.i (IntKind.i64.wrap (S.getD 1 0+m+1))::_=_;rw[q9 (show iU (S.getD 1 0+m+1)by constructor<;>omega),show S.getD 1 0+((m+1:Nat):Int)=S.getD 1 0+m+1 by omega];rfl;unfold posOf at Hf ⊢;rw[n8,Hf,List.range_succ,n8,V0];rfl;intro r hr;rcases mi.1 hr with hr|hr;exact p9 r hr;rw[kL.1 hr];exact⟨_,_,_,_,_,_,_,rfl,by omega,by omega⟩
theorem Mj:∀m:Nat,((List.range m).map fun i:Nat=>(f+(i:Int),y')).count (x,y)=if y'=y/\f<=x/\x<f+m then 1 else 0
 | 0=>by
   rw[if_neg (by omega)];rfl
 | m+1=>by
   rw[List.range_succ,n8,List.count_append,Mj m,kD,rM,List.count_singleton];have e:((f+(m:Int),y')==(x,y))=decide (f+(m:Int)=x/\y'=y):=by
     by_cases h:f+(m:Int)=x/\y'=y;obtain⟨h1,h2⟩:=h;subst h1 h2;simp;rw[decide_eq_false h];exact beq_eq_false_iff_ne.2 fun he=>h ⟨congrArg Prod.fst he,congrArg Prod.snd he⟩
   rw[e];by_cases h2:y'=y/\f<=x/\x<f+m;rw[if_pos h2,if_neg (fun h=>by have:=mW h;omega),if_pos (by omega)];rw[if_neg h2];by_cases h1:f+(m:Int)=x/\y'=y;rw[if_pos (kR h1),if_pos (by omega)];rw[if_neg (fun h=>h1 (mW h)),if_neg (by omega)]
theorem RQ{X0:Int}:((oO S X0 X1 y').flatMap ya).count (x,y)=if y'=y/\(dZ S y' X0 X1).1<=x/\x<(dZ S y' X0 X1).2 then 1 else 0:=by
 unfold oO;split;rename_i h;rw[List.flatMap_cons,List.flatMap_nil,qH];show((List.range ((dZ S y' X0 X1).2-(dZ S y' X0 X1).1).toNat).map fun i:Nat=>((dZ S y' X0 X1).1+(i:Int),y')).count (x,y)=_;rw[Mj];by_cases h2:y'=y/\(dZ S y' X0 X1).1<=x/\x<(dZ S y' X0 X1).2;rw[if_pos h2,if_pos (by omega)];rw[if_neg h2,if_neg (by omega)];rename_i h;rw[if_neg (by omega)];rfl
theorem EB{X0 lo:Int}:∀n:Nat,((jL S X0 X1 lo n).flatMap ya).count (x,y)=if(lo<=y/\y<lo+n)/\(dZ S y X0 X1).1<=x/\x<(dZ S y X0 X1).2 then 1 else 0
 | 0=>by
   rw[if_neg (by omega)];rfl
 | n+1=>by
   rw[pN,List.flatMap_append,List.count_append,EB n,RQ];by_cases hy:lo+n=y;rw[hy,if_neg (by omega),gK];by_cases h2:(dZ S y X0 X1).1<=x/\x<(dZ S y X0 X1).2;rw[if_pos ⟨rfl,h2⟩,if_pos ⟨by omega,h2⟩];rw[if_neg (fun h=>h2 h.2),if_neg (fun h=>h2 h.2)];by_cases h2:(lo<=y/\y<lo+n)/\(dZ S y X0 X1).1<=x/\x<(dZ S y X0 X1).2;rw[if_pos h2,if_neg (fun h=>hy h.1),if_pos ⟨by omega,h2.2⟩];rw[if_neg h2,if_neg (fun h=>hy h.1),if_neg (fun h=>h2 ⟨by omega,h.2⟩)]
theorem Iq{S:List (List Int)}{X0 X1 lo:Int}:∀n:Nat,(jL S X0 X1 lo n).length<=n
 |0=>fz _
 | n+1=>by
   rw[pN,ff];have:=Iq (S:=S) (X0:=X0) (X1:=X1) (lo:=lo) n;have:(oO S X0 X1 (lo+n)).length<=1:=by
     unfold oO;split<;>simp
   omega
theorem RR{X0 lo:Int}{n:Nat}{r:List Int}(h:r∈jL S X0 X1 lo n):∃i:Nat,i<n/\(dZ S (lo+i) X0 X1).1<(dZ S (lo+i) X0 X1).2/\r=[lo+i,(dZ S (lo+i) X0 X1).1,(dZ S (lo+i) X0 X1).2]:=by
 obtain⟨i,hi,hr⟩:=List.mem_flatMap.1 h;unfold oO at hr;split at hr;rename_i cu;exact⟨i,wq.1 hi,cu,kL.1 hr⟩;cases hr
theorem r65:Gf 65 [.i 0,.i 0,.i 9,.i 8] [.b true]:=by
 have h:L5 (TT PP) 40 65 [] 2000 [.i 0,.i 0,.i 9,.i 8] [.b true]=true:=by kernel_rfl
 exact zf (tb:=[]) trivial h
def abj(x y:Int):List DV:=[.i x,.i y,.i 8388607,.i 1,.i 1,.i 1,.i 1]
def Ku(ax ay bx bZ cx cy:Int):List DV:=abj ax ay++abj bx bZ++abj cx cy++[.i 0]++[.i 0,.i 0,.i 9,.i 8]
def DG(r:List Int):Prop:=∃x y z,r=[x,y,z,1,1,1,1,64]/\(0<=x/\x<9)/\(0<=y/\y<8)/\0<=z/\z<=16777215
def mV(ax ay bx bZ cx cy x y:Int):Prop:=((0<=x/\x<9)/\0<=y/\y<8)/\fo ax ay bx bZ cx cy (256*x+128) (256*y+128)
theorem aes(hg:Gf 177 (Ku ax ay bx bZ cx cy) rs):∃out,rs=[.l out]/\(∀r∈out,DG r)/\∀x y,((posOf out).count (x,y)=1/\mV ax ay bx bZ cx cy x y)\/((posOf out).count (x,y)=0/\¬ mV ax ay bx bZ cx cy x y):=by
 have told := Xj (fun k => if k < 4 then 1 else 0) ⟨fun k hk => by show 0 <= (if k < 4 then (1 : Int) else 0) /\ (if k < 4 then (1 : Int) else 0) <= 255; rw [if_pos hk]; omega, by decide⟩ _ (kL.2 rfl) _ _ (show yb _ (pd 26 (kW++kW++kW)) (Ku ax ay bx bZ cx cy)from
   ⟨trivial,trivial,trivial,⟨_,rfl,rfl⟩,⟨_,rfl,rfl⟩,⟨_,rfl,rfl⟩,⟨_,rfl,rfl⟩,trivial,trivial,trivial,⟨_,rfl,rfl⟩,⟨_,rfl,rfl⟩,⟨_,rfl,rfl⟩,⟨_,rfl,rfl⟩,trivial,trivial,trivial,⟨_,rfl,rfl⟩,⟨_,rfl,rfl⟩,⟨_,rfl,rfl⟩,⟨_,rfl,rfl⟩,trivial,trivial,trivial,trivial,trivial,trivial⟩) hg
 have hs:∃(lo:Int) (n:Nat),(∀r,Gf 221 ((iv 0 21++iv 22 4).map (DE.af (bj.aB 0 (Ku ax ay bx bZ cx cy)))) r->r=[.l (jL (gW ax ay bx bZ cx cy) 0 9 lo n)])/\n<=8/\(∀r∈jL (gW ax ay bx bZ cx cy) 0 9 lo n,0<=r.getD 1 0/\r.getD 2 0<=9)/\∀x y,mV ax ay bx bZ cx cy x y↔((lo<=y/\y<lo+n)/\(dZ (gW ax ay bx bZ cx cy) y 0 9).1<=x/\x<(dZ (gW ax ay bx bZ cx cy) y 0 9).2):=by
   by_cases hA:Ar ax ay bx bZ cx cy=0;exact⟨0,0,fun r hr=>Ir (show ar ((iv 0 21++iv 22 4).map (DE.af (bj.aB 0 (Ku ax ay bx bZ cx cy))))=0 from hA) hr,by omega,fun r hr=>(by cases hr),fun x y=>⟨fun h=>absurd h.2 (uA hA),fun h=>by omega⟩⟩;obtain⟨lo,tm⟩:∃lo,lo=max 0 (min (min ay bZ) cy/256-1):=⟨_,rfl⟩;obtain⟨hi,Ld⟩:∃hi,hi=min 8 (max (max ay bZ) cy/256+2):=⟨_,rfl⟩;refine⟨lo,(hi-lo).toNat,fun r hr=>?_,by omega,fun r hr=>?_,fun x y=>?_⟩;obtain⟨n,h1,h2,h3⟩:=Xe (ds:=(iv 0 21++iv 22 4).map (DE.af (bj.aB 0 (Ku ax ay bx bZ cx cy)))) hA (fun r h=>h.det r65) hr;have h1:r=[.l (jL (gW ax ay bx bZ cx cy) 0 9 (max 0 (min (min ay bZ) cy/256-1)) n)]:=h1;have h2:min 8 (max (max ay bZ) cy/256+2)<=max 0 (min (min ay bZ) cy/256-1)+n:=h2;have h3:n=0\/max 0 (min (min ay bZ) cy/256-1)+n<=min 8 (max (max ay bZ) cy/256+2):=h3;rw[<- tm,<- Ld]at h2 h3;rw[<- tm]at h1;rw[h1,show(hi-lo).toNat=n by omega];obtain⟨i,PW,cu,rfl⟩:=RR hr;have f1:=(Gk (f:=0) (t:=9) (y:=lo+i) (x:=(dZ (gW ax ay bx bZ cx cy) (lo+i) 0 9).1) hA).1 ⟨Int.le_refl _,cu⟩;have f2:=(Gk (f:=0) (t:=9) (y:=lo+i) (x:=(dZ (gW ax ay bx bZ cx cy) (lo+i) 0 9).2-1) hA).1 ⟨by omega,by omega⟩;exact⟨f1.1.1,show(dZ (gW ax ay bx bZ cx cy) (lo+i) 0 9).2<=9 by have:=f2.1.2;omega⟩;have sp:=Gk (f:=0) (t:=9) (x:=x) (y:=y) hA;constructor;rintro⟨⟨hx,hy⟩,hp⟩;have:=aet hp;exact⟨by omega,sp.2 ⟨hx,hp⟩⟩;rintro⟨hy,hx⟩;obtain⟨h1,h2⟩:=sp.1 hx;exact⟨⟨h1,by omega⟩,h2⟩
 obtain⟨lo,n,Lx,hn,hb,gR⟩:=hs;obtain⟨out,rfl,kJ,hf⟩:=abh Lx (by have:=Iq (S:=gW ax ay bx bZ cx cy) (X0:=0) (X1:=9) (lo:=lo) n;omega) (fun r hr=>by have:=hb r hr;omega) hg;have Is:∀x y,((posOf out).count (x,y)=1/\mV ax ay bx bZ cx cy x y)\/((posOf out).count (x,y)=0/\¬ mV ax ay bx bZ cx cy x y):=fun x y=>by
   rw[kJ,EB,gR];by_cases h:(lo<=y/\y<lo+n)/\(dZ (gW ax ay bx bZ cx cy) y 0 9).1<=x/\x<(dZ (gW ax ay bx bZ cx cy) y 0 9).2;rw[if_pos h];exact .inl ⟨rfl,h⟩;rw[if_neg h];exact .inr ⟨rfl,h⟩
 refine⟨out,rfl,fun r hr=>?_,Is⟩;obtain⟨x,y,z,c0,c1,c2,c3,rfl,hz⟩:=hf r hr;have hc:=told.1 _ hr;have k0:c0=1:=hc (3,.s 0) (by simp);have k1:c1=1:=hc (4,.s 1) (by simp);have k2:c2=1:=hc (5,.s 2) (by simp);have k3:c3=1:=hc (6,.s 3) (by simp);subst k0 k1 k2 k3;have hm:(x,y)∈posOf out:=jO.2 ⟨_,hr,rfl⟩;have hp:=List.count_pos_iff.2 hm;rcases Is x y with⟨_,h⟩|⟨h,_⟩;exact⟨x,y,z,rfl,h.1.1,h.1.2,hz⟩;omega
end Go.Proofs.YtohebioanhliiaaGreatDoor.av
