/- real.Unit and real.Fixed, by the walk. -/
import Derived.Test.YtohebioanhliiaaGreatDoorBB2
import Derived.Shelf.Bits.Mul64
import Derived.Laws.FloatArith
import Derived.Laws.Bits64b
set_option maxRecDepth 20000
set_option linter.unusedVariables false
set_option linter.unusedSimpArgs false
namespace Go.Proofs.YtohebioanhliiaaGreatDoor.aw
section
open Go.RowKit Go Go.Shelf
def akd:Ren:=⟨fun x=>if x=264 then 139 else x,fun x=>if x=46 then 198 else if x=53 then 232 else x,fun x=>x⟩
theorem QU:Lays.n264 Tryz.prog akd where
 mixed:=by kernel_rfl
 f264:=by kernel_rfl
 t46:=by kernel_rfl
 a46:=fun w=>by kernel_rfl
 z46:=fun w=>by kernel_rfl
 v46:=fun w=>by kernel_rfl
 t53:=by kernel_rfl
 a53:=fun w=>by kernel_rfl
 z53:=fun w=>by kernel_rfl
 v53:=fun w=>by kernel_rfl
theorem DC(x y:Nat)(hx:x<18446744073709551616)(hy:y<18446744073709551616)(w:World) :
   Calls Tryz.prog 139 #[.int .u64 x,.int .u64 y] w fun e w'=>e = .returned (.tuple #[.int .u64 ((x*y/18446744073709551616:Nat):Int),.int .u64 ((x*y%18446744073709551616:Nat):Int)])/\w'=w:=Any.bits_Mul64 QU x y hx hy w
theorem gW(x:Nat)(w:World):(callFunc 138 #[.float .f64 x]).run Tryz.prog w = .ok (.value (.int .u64 x)) w:=by
 rw[run_callFunc_extern Tryz.func138 (by kernel_rfl) (by kernel_rfl) (by kernel_rfl) (e:=Extern.MathFloatBits.float64bits) (by kernel_rfl)];rfl
abbrev bS(x y:Nat):Option Ordering:=FloatKind.f64.format.order x y
def ta(x:Nat):Nat:=(x &&& 4503599627370495) |||4503599627370496
theorem u4(x:Nat):ta x<9007199254740992:=by
 have:x &&& 4503599627370495<2 ^ 53:=Nat.lt_of_le_of_lt Nat.and_le_right (by decide);exact Nat.or_lt_two_pow this (by decide)
theorem QV{x:Nat}(hx:x<18446744073709551616):bits .or .u64 (bits .and .u64 (x:Int) 4503599627370495) 4503599627370496=(ta x:Int):=by
 have e1:=bits_and_u64_nat x 4503599627370495 hx (by decide);have l1:x &&& 4503599627370495<18446744073709551616:=Nat.lt_of_le_of_lt Nat.and_le_right (by decide);have e2:=bits_or_u64_nat (x &&& 4503599627370495) 4503599627370496 l1 (by decide);rw[show(4503599627370495:Int)=((4503599627370495:Nat):Int)from rfl,e1];exact e2
theorem TS{p d:Nat}(Ab:53<=d)(xD:d<=63)(hp:p<2 ^ 53*16777217):wrap64 (bits .or .u64 (IntKind.u64.wrap (((p:Nat):Int)/18446744073709551616*2 ^ (64-d))) (((p:Nat):Int)%18446744073709551616/2 ^ d))=((p/2 ^ d:Nat):Int):=by
 have ed:2 ^ (64-d)*2 ^ d=18446744073709551616:=by rw[<- Nat.pow_add,show 64-d+d=64 by omega]
 have pd:0<2 ^ d:=Nat.pow_pos (by omega);have pe:0<2 ^ (64-d):=Nat.pow_pos (by omega);have e1:p/2 ^ d=p/18446744073709551616*2 ^ (64-d)+p%18446744073709551616/2 ^ d:=by
   have:=Nat.div_add_mod p 18446744073709551616;have e2:p=p%18446744073709551616+2 ^ d*(p/18446744073709551616*2 ^ (64-d)):=by
     have:2 ^ d*(p/18446744073709551616*2 ^ (64-d))=p/18446744073709551616*(2 ^ (64-d)*2 ^ d):=by
       rw[Nat.mul_comm,Nat.mul_assoc]
     rw[this,ed];omega
   conv=>lhs;rw[e2]
   rw[Nat.add_mul_div_left _ _ pd];omega
 have l1:p%18446744073709551616/2 ^ d<2 ^ (64-d):=by
   rw[Nat.div_lt_iff_lt_mul pd,ed];exact Nat.mod_lt _ (by decide)
 have l2:p/2 ^ d<16777217:=by
   rw[Nat.div_lt_iff_lt_mul pd];have:2 ^ 53<=2 ^ d:=Nat.pow_le_pow_right (by omega) Ab;have:=Nat.mul_le_mul_left 16777217 this;omega
 have c1:((p:Nat):Int)/18446744073709551616*2 ^ (64-d)=((p/18446744073709551616*2 ^ (64-d):Nat):Int):=by
   rw[Int.natCast_mul,Int.natCast_ediv,Int.natCast_pow];rfl
 have c2:((p:Nat):Int)%18446744073709551616/2 ^ d=((p%18446744073709551616/2 ^ d:Nat):Int):=by
   rw[Int.natCast_ediv,Int.natCast_emod,Int.natCast_pow];rfl
 rw[c1,c2];have l3:2 ^ (64-d)<=2 ^ 11:=Nat.pow_le_pow_right (by omega) (by omega);have vF:=Nat.two_pow_add_eq_or_of_lt l1 (p/18446744073709551616);rw[Nat.mul_comm]at vF;generalize p/2 ^ d=Q at *;generalize p/18446744073709551616*2 ^ (64-d)=A at *;generalize p%18446744073709551616/2 ^ d=B at *;have hA:IntKind.u64.wrap (A:Int)=A:=by rw[IntKind.wrap_u64];omega
 rw[hA,bits_or_u64_nat _ _ (by omega) (by omega),<- vF,<- e1];unfold wrap64;omega
theorem TU{p d:Nat}(Ab:64<=d)(hp:p<2 ^ 53*16777217):wrap64 (((p:Nat):Int)/18446744073709551616/2 ^ (d-64))=((p/2 ^ d:Nat):Int):=by
 have e0:18446744073709551616*2 ^ (d-64)=2 ^ d:=by
   rw[show 18446744073709551616=2 ^ 64 from rfl,<- Nat.pow_add,show 64+(d-64)=d by omega]
 have e1:p/18446744073709551616/2 ^ (d-64)=p/2 ^ d:=by rw[Nat.div_div_eq_div_mul,e0]
 have c1:((p:Nat):Int)/18446744073709551616/2 ^ (d-64)=((p/18446744073709551616/2 ^ (d-64):Nat):Int):=by
   rw[Int.natCast_ediv,Int.natCast_ediv,Int.natCast_pow];rfl
 have l:p/18446744073709551616/2 ^ (d-64)<=p/18446744073709551616:=Nat.div_le_self _ _;rw[c1,<- e1];generalize p/18446744073709551616/2 ^ (d-64)=A at *;unfold wrap64;omega
theorem adi{x top:Nat}(h0:top<=16777216):ta x*top<2 ^ 53*16777217:=by
 have:=u4 x;have h:=Nat.mul_le_mul (Nat.le_of_lt this) h0;omega
section
variable (x top:Nat)(w:World)(hx:x<18446744073709551616)(h0:top<=16777216)
theorem QW(x:Nat)(top:Nat)(w:World)(hx:x<18446744073709551616)(h0:top<=16777216)(h1:(bS x x != some .eq)=true):Calls Tryz.prog 87 #[.float .f64 x,.int .i64 top] w fun e w'=>e = .returned (.tuple #[.int .i64 0,.int .i64 2])/\w'=w:=by
 go_enter Tryz.func87,Tryz.ntmps87
 go_wp2
 all_goals first|(go_ret2;exact⟨rfl,rfl⟩)|skip
 all_goals simp_all
theorem QX(x:Nat)(top:Nat)(w:World)(hx:x<18446744073709551616)(h0:top<=16777216)(h1:(bS x x != some .eq)=false)(h2:(bS x 0==some .lt||bS x 0==some .eq)=true):Calls Tryz.prog 87 #[.float .f64 x,.int .i64 top] w fun e w'=>e = .returned (.tuple #[.int .i64 0,.int .i64 0])/\w'=w:=by
 go_enter Tryz.func87,Tryz.ntmps87
 go_wp2
 all_goals first|(go_ret2;exact⟨rfl,rfl⟩)|skip
 all_goals simp_all
theorem K7(x:Nat)(top:Nat)(w:World)(hx:x<18446744073709551616)(h0:top<=16777216)(h1:(bS x x != some .eq)=false)(h2:(bS x 0==some .lt||bS x 0==some .eq)=false)(h3:(bS x 4607182418800017408==some .gt||bS x 4607182418800017408==some .eq)=true):Calls Tryz.prog 87 #[.float .f64 x,.int .i64 top] w fun e w'=>e = .returned (.tuple #[.int .i64 top,.int .i64 0])/\w'=w:=by
 go_enter Tryz.func87,Tryz.ntmps87
 go_wp2
 all_goals first|(go_ret2;exact⟨rfl,rfl⟩)|skip
 all_goals simp_all
theorem QY(x:Nat)(top:Nat)(w:World)(hx:x<18446744073709551616)(h0:top<=16777216)(h1:(bS x x != some .eq)=false)(h2:(bS x 0==some .lt||bS x 0==some .eq)=false)(h3:(bS x 4607182418800017408==some .gt||bS x 4607182418800017408==some .eq)=false)(d:Nat)(hd:x/4503599627370496+d=1075)(Ab:53<=d)(xD:d<=63) :
   Calls Tryz.prog 87 #[.float .f64 x,.int .i64 top] w fun e w'=>e = .returned (.tuple #[.int .i64 ((ta x*top/2 ^ d:Nat):Int),.int .i64 0])/\w'=w:=by
 have hb:∀w,(callFunc 138 #[.float .f64 x]).run Tryz.prog w = .ok (.value (.int .u64 x)) w:=gW x;have hm:=QV hx;have hw:IntKind.u64.wrap (top:Int)=top:=by rw[IntKind.wrap_u64];omega
 have hf:=u4 x;have hqd:1075-(x:Int)/4503599627370496=(d:Int):=by omega
 have n1:¬ (128:Int)<=d:=by omega
 have n2:¬ (64:Int)<=d:=by omega
 have wd:IntKind.u64.wrap (d:Int)=d:=by rw[IntKind.wrap_u64];omega
 have w6:IntKind.u64.wrap (64-(d:Int))=((64-d:Nat):Int):=by rw[IntKind.wrap_u64];omega
 go_enter Tryz.func87,Tryz.ntmps87
 go_wp2_with (go_at_call 139;refine(DC (ta x) top (by omega) (by omega) _).mono ?_;rintro e w1 ⟨rfl,rfl⟩)
 have t:=TS Ab xD (adi (x:=x) h0);rw[Int.natCast_mul]at t
 all_goals go_ret2
 all_goals refine⟨?_,rfl⟩
 all_goals rw[<- t]
 all_goals rfl
theorem QZ(x:Nat)(top:Nat)(w:World)(hx:x<18446744073709551616)(h0:top<=16777216)(h1:(bS x x != some .eq)=false)(h2:(bS x 0==some .lt||bS x 0==some .eq)=false)(h3:(bS x 4607182418800017408==some .gt||bS x 4607182418800017408==some .eq)=false)(d:Nat)(hd:x/4503599627370496+d=1075)(Ab:64<=d)(xD:d<=127) :
   Calls Tryz.prog 87 #[.float .f64 x,.int .i64 top] w fun e w'=>e = .returned (.tuple #[.int .i64 ((ta x*top/2 ^ d:Nat):Int),.int .i64 0])/\w'=w:=by
 have hb:∀w,(callFunc 138 #[.float .f64 x]).run Tryz.prog w = .ok (.value (.int .u64 x)) w:=gW x;have hm:=QV hx;have hw:IntKind.u64.wrap (top:Int)=top:=by rw[IntKind.wrap_u64];omega
 have hf:=u4 x;have hqd:1075-(x:Int)/4503599627370496=(d:Int):=by omega
 have n1:¬ (128:Int)<=d:=by omega
 have n2:(64:Int)<=d:=by omega
 have w6:IntKind.u64.wrap ((d:Int)-64)=((d-64:Nat):Int):=by rw[IntKind.wrap_u64];omega
 go_enter Tryz.func87,Tryz.ntmps87
 go_wp2_with (go_at_call 139;refine(DC (ta x) top (by omega) (by omega) _).mono ?_;rintro e w1 ⟨rfl,rfl⟩)
 have t:=TU Ab (adi (x:=x) h0);rw[Int.natCast_mul]at t
 all_goals go_ret2
 all_goals refine⟨?_,rfl⟩
 all_goals rw[<- t]
 all_goals rfl
theorem K8(x:Nat)(top:Nat)(w:World)(hx:x<18446744073709551616)(h0:top<=16777216)(h1:(bS x x != some .eq)=false)(h2:(bS x 0==some .lt||bS x 0==some .eq)=false)(h3:(bS x 4607182418800017408==some .gt||bS x 4607182418800017408==some .eq)=false)(d:Nat)(hd:x/4503599627370496+d=1075)(Ab:128<=d) :
   Calls Tryz.prog 87 #[.float .f64 x,.int .i64 top] w fun e w'=>e = .returned (.tuple #[.int .i64 0,.int .i64 0])/\w'=w:=by
 have hb:∀w,(callFunc 138 #[.float .f64 x]).run Tryz.prog w = .ok (.value (.int .u64 x)) w:=gW x;have hm:=QV hx;have hw:IntKind.u64.wrap (top:Int)=top:=by rw[IntKind.wrap_u64];omega
 have hf:=u4 x;have hqd:1075-(x:Int)/4503599627370496=(d:Int):=by omega
 have n1:(128:Int)<=d:=by omega
 go_enter Tryz.func87,Tryz.ntmps87
 go_wp2_with (go_at_call 139;refine(DC (ta x) top (by omega) (by omega) _).mono ?_;rintro e w1 ⟨rfl,rfl⟩)
 all_goals first|(go_ret2;exact⟨rfl,rfl⟩)|skip
end
end
section
open Go.RowKit Go Ieee
def dJ(x:Nat):Datum:=
 if x%9223372036854775808<4503599627370496 then .number (x/9223372036854775808%2==1) (x%9223372036854775808) (-1074)
 else if x%9223372036854775808<9218868437227405312 then .number (x/9223372036854775808%2==1) (4503599627370496+x%9223372036854775808%4503599627370496) (-1074+((x%9223372036854775808/4503599627370496-1:Nat):Int))
 else if x%9223372036854775808=9218868437227405312 then .infinity (x/9223372036854775808%2==1)
 else .nan (x/9223372036854775808%2==1) (x%9223372036854775808-9218868437227405312)
theorem su(x:Nat):FloatKind.f64.format.read x=dJ x:=by
 show Ieee.Format.read double x=dJ x;have e1:double.signWeight=9223372036854775808:=by decide
 have e2:double.binade=4503599627370496:=by decide
 have e3:double.infRung=9218868437227405312:=by decide
 have e4:double.leastPlace = -1074:=by decide
 simp only[Format.read,e1,e2,e3,e4,dJ]
theorem zF(x y:Nat):bS x y=(dJ x).order (dJ y):=by
 show(FloatKind.f64.format.read x).order (FloatKind.f64.format.read y)=_;rw[su,su]
theorem adj:dJ 0 = .number false 0 (-1074):=by decide
theorem adk:dJ 4607182418800017408 = .number false 4503599627370496 (-52):=by decide
theorem wZ(m u:Nat):signed true m u = -((m <<< u:Nat):Int):=rfl
theorem ga(m u:Nat):signed false m u=((m <<< u:Nat):Int):=rfl
theorem zZ{x:Nat}(hx:x<18446744073709551616)(h1:(bS x x != some .eq)=false)(h2:(bS x 0==some .lt||bS x 0==some .eq)=false)(h3:(bS x 4607182418800017408==some .gt||bS x 4607182418800017408==some .eq)=false):x/4503599627370496<=1022:=by
 rw[zF]at h1;rw[zF,adj]at h2;rw[zF,adk]at h3;rcases Nat.lt_or_ge x 9223372036854775808 with hs|hs;have es:(x/9223372036854775808%2==1)=false:=by rw[Nat.div_eq_of_lt hs];rfl
 have em:x%9223372036854775808=x:=Nat.mod_eq_of_lt hs;rcases Nat.lt_or_ge 1022 (x/4503599627370496)with hq|hq;exfalso;unfold dJ at h1 h3;rw[es,em]at h1 h3;rw[if_neg (by omega)]at h1 h3;split at h3;rename_i h;simp only[Datum.order,ga]at h3;have eb:min (-1074+((x/4503599627370496-1:Nat):Int)) (-52) = -52:=by omega
 rw[eb,show((-52:Int) - -52).toNat=0 from rfl,Nat.shiftLeft_zero]at h3;generalize hu:(-1074+((x/4503599627370496-1:Nat):Int) - -52).toNat=u at h3;have:4503599627370496<=(4503599627370496+x%4503599627370496) <<< u:=by
   rw[Nat.shiftLeft_eq];have:=Nat.pow_pos (n:=u) (show 0<2 by omega);have:=Nat.le_mul_of_pos_right (4503599627370496+x%4503599627370496) this;omega
 generalize(4503599627370496+x%4503599627370496) <<< u=m at *;rcases Nat.lt_or_ge 4503599627370496 m with hm|hm;have:compare (m:Int) ((4503599627370496:Nat):Int) = .gt:=Int.compare_eq_gt.2 (by omega);rw[this]at h3;exact absurd h3 (by decide);have:compare (m:Int) ((4503599627370496:Nat):Int) = .eq:=Int.compare_eq_eq.2 (by omega);rw[this]at h3;exact absurd h3 (by decide);rename_i h;rw[if_neg h]at h1;split at h3;exact absurd h3 (by decide);rename_i h';rw[if_neg h']at h1;exact absurd h1 (by simp[Datum.order]);exact hq;exfalso;have es:(x/9223372036854775808%2==1)=true:=by
   have:x/9223372036854775808=1:=by omega
   rw[this];rfl
 unfold dJ at h1 h2;rw[es]at h1 h2;have key:∀(m u v:Nat),(some (compare (signed true m u) (signed false 0 v))==some Ordering.lt||some (compare (signed true m u) (signed false 0 v))==some Ordering.eq)=true:=by
   intro m u v;rw[wZ,ga,Nat.zero_shiftLeft];rcases Nat.eq_zero_or_pos (m <<< u)with e|e;rw[e];decide;have:compare (-((m <<< u:Nat):Int)) ((0:Nat):Int) = .lt:=Int.compare_eq_lt.2 (by omega);rw[this];decide
 split at h2;simp only[Datum.order,key]at h2;exact absurd h2 (by decide);rename_i h;rw[if_neg h]at h1;split at h2;simp only[Datum.order,key]at h2;exact absurd h2 (by decide);rename_i h';rw[if_neg h']at h1;split at h2;exact absurd h2 (by decide);rename_i h'';rw[if_neg h'']at h1;exact absurd h1 (by simp[Datum.order])
end
section
open Go.RowKit Go
def fR(x:Nat):Nat:=x%9223372036854775808
theorem E2{x:Nat}(hx:x<18446744073709551616):bits .andNot .u64 (x:Int) 9223372036854775808=(fR x:Int):=by
 have h1:(BitVec.ofInt 64 (x:Int)).toNat=x:=by
   rw[BitVec.ofInt_natCast,BitVec.toNat_ofNat];exact Nat.mod_eq_of_lt (by omega)
 show IntKind.u64.wrap ((BitVec.ofInt 64 (x:Int) &&& ~~~ BitVec.ofInt 64 9223372036854775808).toNat:Int)=_;have h2:(~~~ BitVec.ofInt 64 9223372036854775808).toNat=2 ^ 63-1:=by decide
 rw[BitVec.toNat_and,h1,h2,Nat.and_two_pow_sub_one_eq_mod,IntKind.wrap_u64];unfold fR;omega
theorem oF(x:Nat)(w:World):(callFunc 140 #[.int .u64 x]).run Tryz.prog w = .ok (.value (.float .f64 x)) w:=by
 rw[run_callFunc_extern Tryz.func140 (by kernel_rfl) (by kernel_rfl) (by kernel_rfl) (e:=Extern.MathFloatBits.float64frombits) (by kernel_rfl)];rfl
theorem uU(x:Nat)(w:World)(hx:x<18446744073709551616):Calls Tryz.prog 192 #[.float .f64 x] w fun e w'=>e = .returned (.float .f64 (fR x))/\w'=w:=by
 have hb:∀w,(callFunc 138 #[.float .f64 x]).run Tryz.prog w = .ok (.value (.int .u64 x)) w:=gW x;have hf:∀w,(callFunc 140 #[.int .u64 (fR x:Int)]).run Tryz.prog w = .ok (.value (.float .f64 (fR x))) w:=oF (fR x);have ha:=E2 hx;go_enter Tryz.func192,Tryz.ntmps192
 go_wp2
 all_goals first|(go_ret;exact⟨rfl,rfl⟩)|skip
theorem oG(x:Nat)(w:World):Calls Tryz.prog 258 #[.float .f64 x] w fun e w'=>e = .returned (.bool (bS x x != some .eq))/\w'=w:=by
 go_enter Tryz.func258,Tryz.ntmps258
 go_wp2
 all_goals first|(go_ret;exact⟨rfl,rfl⟩)|skip
theorem iw(x:Nat)(w:World)(hx:x<18446744073709551616):Calls Tryz.prog 189 #[.float .f64 x,.int .i64 0] w fun e w'=>e = .returned (.bool (bS (fR x) 9218868437227405311==some .gt))/\w'=w:=by
 go_enter Tryz.func189,Tryz.ntmps189
 go_wp2_with (go_at_call 192;refine(uU x _ hx).mono ?_;rintro e w1 ⟨rfl,rfl⟩)
 all_goals first|(go_ret;exact⟨rfl,rfl⟩)|skip
theorem Ti(w:World):Calls Tryz.prog 261 #[.int .i64 (-1)] w fun e w'=>e = .returned (.float .f64 18442240474082181120)/\w'=w:=by
 have hf:∀w,(callFunc 140 #[.int .u64 18442240474082181120]).run Tryz.prog w = .ok (.value (.float .f64 18442240474082181120)) w:=oF 18442240474082181120;go_enter Tryz.func261,Tryz.ntmps261
 go_wp2
 all_goals first|(go_ret;exact⟨rfl,rfl⟩)|skip
theorem Dm(w:World):Calls Tryz.prog 261 #[.int .i64 1] w fun e w'=>e = .returned (.float .f64 9218868437227405312)/\w'=w:=by
 have hf:∀w,(callFunc 140 #[.int .u64 9218868437227405312]).run Tryz.prog w = .ok (.value (.float .f64 9218868437227405312)) w:=oF 9218868437227405312;go_enter Tryz.func261,Tryz.ntmps261
 go_wp2
 all_goals first|(go_ret;exact⟨rfl,rfl⟩)|skip
end
section
open Go.RowKit Go
def AR(x:Nat):Nat:=x/9223372036854775808*9223372036854775808
theorem Od{x:Nat}(hx:x<18446744073709551616):bits .or .u64 (bits .andNot .u64 0 9223372036854775808) (bits .and .u64 (x:Int) 9223372036854775808)=(AR x:Int):=by
 have e0:bits .andNot .u64 0 9223372036854775808=((0:Nat):Int):=by decide
 have e1:=bits_and_u64_nat x 9223372036854775808 hx (by decide);rw[show(9223372036854775808:Int)=((9223372036854775808:Nat):Int)from rfl]at e0 ⊢;rw[e0,e1];have l1:x &&& 9223372036854775808<18446744073709551616:=Nat.lt_of_le_of_lt Nat.and_le_right (by decide);rw[bits_or_u64_nat 0 _ (by decide) l1,Nat.zero_or];have:x &&& 2 ^ 63=AR x:=by
   have hb:x.testBit 63=decide (x/2 ^ 63%2=1):=Nat.testBit_eq_decide_div_mod_eq;refine Nat.eq_of_testBit_eq fun i=>?_;rw[Nat.testBit_and,Nat.testBit_two_pow];unfold AR;by_cases hi:63=i;subst hi;rw[hb];rcases Nat.lt_or_ge x 9223372036854775808 with h|h;rw[show x/2 ^ 63=0 from Nat.div_eq_of_lt h];decide;have e:x/9223372036854775808=1:=by omega
   rw[show x/2 ^ 63=1 from e];decide;have e:x/9223372036854775808=0\/x/9223372036854775808=1:=by omega
   rw[decide_eq_false hi,Bool.and_false];rcases e with e|e;rw[e];simp;rw[e,show 1*9223372036854775808=2 ^ 63 from rfl,Nat.testBit_two_pow,decide_eq_false hi]
 exact congrArg _ this
theorem Dn(x:Nat)(w:World)(hx:x<18446744073709551616):Calls Tryz.prog 260 #[.float .f64 0,.float .f64 x] w fun e w'=>e = .returned (.float .f64 (AR x))/\w'=w:=by
 have hb:∀w,(callFunc 138 #[.float .f64 x]).run Tryz.prog w = .ok (.value (.int .u64 x)) w:=gW x;have hz:∀w,(callFunc 138 #[.float .f64 0]).run Tryz.prog w = .ok (.value (.int .u64 0)) w:=gW 0;have hf:∀w,(callFunc 140 #[.int .u64 (AR x:Int)]).run Tryz.prog w = .ok (.value (.float .f64 (AR x))) w:=oF (AR x);have ha:=Od hx;go_enter Tryz.func260,Tryz.ntmps260
 go_wp2
 all_goals first|(go_ret;exact⟨rfl,rfl⟩)|skip
theorem xy(x:Nat)(w:World)(hx:x<18446744073709551616)(h:(bS (fR x) 4503599627370496==some .lt)=false):Calls Tryz.prog 259 #[.float .f64 x] w fun e w'=>e = .returned (.tuple #[.float .f64 x,.int .i64 0])/\w'=w:=by
 go_enter Tryz.func259,Tryz.ntmps259
 go_wp2_with (go_at_call 192;refine(uU x _ hx).mono ?_;rintro e w1 ⟨rfl,rfl⟩)
 all_goals first|(go_ret2;exact⟨rfl,rfl⟩)|skip
 all_goals simp_all
theorem xA(x r:Nat)(w:World)(hx:x<18446744073709551616)(h:(bS (fR x) 4503599627370496==some .lt)=true)(hr:FloatKind.f64.format.mul x 4841369599423283200=some r):Calls Tryz.prog 259 #[.float .f64 x] w fun e w'=>e = .returned (.tuple #[.float .f64 r,.int .i64 (-52)])/\w'=w:=by
 have hm:∀w,(binOp .mul 180 (.float .f64 x) (.float .f64 4841369599423283200)).run Tryz.prog w = .ok (.float .f64 r) w:=fun w=>run_float_arith w .mul 180 .f64 x 4841369599423283200 r hr;go_enter Tryz.func259,Tryz.ntmps259
 go_wp2_with (go_at_call 192;refine(uU x _ hx).mono ?_;rintro e w1 ⟨rfl,rfl⟩)
 all_goals first|(go_ret2;exact⟨rfl,rfl⟩)|skip
 all_goals simp_all
end
section
open Go.RowKit Go
section
variable (x:Nat)(n:Int)(w:World)(hx:x<18446744073709551616)(gY:0<=n)(eX:n<=32)
theorem G9(x:Nat)(n:Int)(w:World)(hx:x<18446744073709551616)(gY:0<=n)(eX:n<=32)(h:(bS x 0==some .eq)=true):Calls Tryz.prog 231 #[.float .f64 x,.int .i64 n] w fun e w'=>e = .returned (.float .f64 x)/\w'=w:=by
 go_enter Tryz.func231,Tryz.ntmps231
 go_wp2
 all_goals first|(go_ret;exact⟨rfl,rfl⟩)|skip
 all_goals simp_all
variable (y q:Nat)(e:Int)(hy:y<18446744073709551616)(he:e=0\/e = -52)(UZ:q<=2047)(hq:bits .and .i64 ((y:Int)/4503599627370496) 2047=(q:Int))(hN:∀w,Calls Tryz.prog 259 #[.float .f64 x] w fun z w'=>z = .returned (.tuple #[.float .f64 y,.int .i64 e])/\w'=w)
 (h0:(bS x 0==some .eq)=false) (h1:(bS (fR x) 9218868437227405311==some .gt)=false) (h2:(bS x x != some .eq)=false)
theorem KF(x:Nat)(n:Int)(w:World)(hx:x<18446744073709551616)(gY:0<=n)(eX:n<=32)(y:Nat)(q:Nat)(e:Int)(hy:y<18446744073709551616)(he:e=0\/e = -52)(UZ:q<=2047)(hq:bits .and .i64 ((y:Int)/4503599627370496) 2047=(q:Int))(hN:∀w,Calls Tryz.prog 259 #[.float .f64 x] w fun z w'=>z = .returned (.tuple #[.float .f64 y,.int .i64 e])/\w'=w)(h0:(bS x 0==some .eq)=false)(h1:(bS (fR x) 9218868437227405311==some .gt)=false)(h2:(bS x x != some .eq)=false)(hE:n+e+(q-1023) < -1075):Calls Tryz.prog 231 #[.float .f64 x,.int .i64 n] w fun z w'=>z = .returned (.float .f64 (AR y))/\w'=w:=by
 have hb:∀w,(callFunc 138 #[.float .f64 y]).run Tryz.prog w = .ok (.value (.int .u64 y)) w:=gW y;go_enter Tryz.func231,Tryz.ntmps231
 go_wp2_with (first|(go_at_call 189;refine(iw x _ hx).mono ?_;rintro z w1 ⟨rfl,rfl⟩)|(go_at_call 258;refine(oG x _).mono ?_;rintro z w1 ⟨rfl,rfl⟩)|(go_at_call 259;refine(hN _).mono ?_;rintro z w1 ⟨rfl,rfl⟩)|(go_at_call 260;refine(Dn y _ hy).mono ?_;rintro z w1 ⟨rfl,rfl⟩))
 all_goals first|(go_ret;exact⟨rfl,rfl⟩)|skip
theorem KG(x:Nat)(n:Int)(w:World)(hx:x<18446744073709551616)(gY:0<=n)(eX:n<=32)(y:Nat)(q:Nat)(e:Int)(hy:y<18446744073709551616)(he:e=0\/e = -52)(UZ:q<=2047)(hq:bits .and .i64 ((y:Int)/4503599627370496) 2047=(q:Int))(hN:∀w,Calls Tryz.prog 259 #[.float .f64 x] w fun z w'=>z = .returned (.tuple #[.float .f64 y,.int .i64 e])/\w'=w)(h0:(bS x 0==some .eq)=false)(h1:(bS (fR x) 9218868437227405311==some .gt)=false)(h2:(bS x x != some .eq)=false)(hE:1023<n+e+(q-1023))(hs:(bS y 0==some .lt)=true):Calls Tryz.prog 231 #[.float .f64 x,.int .i64 n] w fun z w'=>z = .returned (.float .f64 18442240474082181120)/\w'=w:=by
 have hb:∀w,(callFunc 138 #[.float .f64 y]).run Tryz.prog w = .ok (.value (.int .u64 y)) w:=gW y;go_enter Tryz.func231,Tryz.ntmps231
 go_wp2_with (first|(go_at_call 189;refine(iw x _ hx).mono ?_;rintro z w1 ⟨rfl,rfl⟩)|(go_at_call 258;refine(oG x _).mono ?_;rintro z w1 ⟨rfl,rfl⟩)|(go_at_call 259;refine(hN _).mono ?_;rintro z w1 ⟨rfl,rfl⟩)|(go_at_call 261;refine(Ti _).mono ?_;rintro z w1 ⟨rfl,rfl⟩))
 all_goals first|(go_ret;exact⟨rfl,rfl⟩)|skip
theorem KH(x:Nat)(n:Int)(w:World)(hx:x<18446744073709551616)(gY:0<=n)(eX:n<=32)(y:Nat)(q:Nat)(e:Int)(hy:y<18446744073709551616)(he:e=0\/e = -52)(UZ:q<=2047)(hq:bits .and .i64 ((y:Int)/4503599627370496) 2047=(q:Int))(hN:∀w,Calls Tryz.prog 259 #[.float .f64 x] w fun z w'=>z = .returned (.tuple #[.float .f64 y,.int .i64 e])/\w'=w)(h0:(bS x 0==some .eq)=false)(h1:(bS (fR x) 9218868437227405311==some .gt)=false)(h2:(bS x x != some .eq)=false)(hE:1023<n+e+(q-1023))(hs:(bS y 0==some .lt)=false):Calls Tryz.prog 231 #[.float .f64 x,.int .i64 n] w fun z w'=>z = .returned (.float .f64 9218868437227405312)/\w'=w:=by
 have hb:∀w,(callFunc 138 #[.float .f64 y]).run Tryz.prog w = .ok (.value (.int .u64 y)) w:=gW y;go_enter Tryz.func231,Tryz.ntmps231
 go_wp2_with (first|(go_at_call 189;refine(iw x _ hx).mono ?_;rintro z w1 ⟨rfl,rfl⟩)|(go_at_call 258;refine(oG x _).mono ?_;rintro z w1 ⟨rfl,rfl⟩)|(go_at_call 259;refine(hN _).mono ?_;rintro z w1 ⟨rfl,rfl⟩)|(go_at_call 261;refine(Dm _).mono ?_;rintro z w1 ⟨rfl,rfl⟩))
 all_goals first|(go_ret;exact⟨rfl,rfl⟩)|skip
theorem KI(x:Nat)(n:Int)(w:World)(hx:x<18446744073709551616)(gY:0<=n)(eX:n<=32)(y:Nat)(q:Nat)(e:Int)(hy:y<18446744073709551616)(he:e=0\/e = -52)(UZ:q<=2047)(hq:bits .and .i64 ((y:Int)/4503599627370496) 2047=(q:Int))(hN:∀w,Calls Tryz.prog 259 #[.float .f64 x] w fun z w'=>z = .returned (.tuple #[.float .f64 y,.int .i64 e])/\w'=w)(h0:(bS x 0==some .eq)=false)(h1:(bS (fR x) 9218868437227405311==some .gt)=false)(h2:(bS x x != some .eq)=false)(k z r:Nat)(hE:n+e+(q-1023)+1023=k)(Re:1<=k)(vE:k<=2046)(hz:bits .or .u64 (bits .andNot .u64 (y:Int) 9218868437227405312) ((k:Int)*4503599627370496)=(z:Int))(hr:FloatKind.f64.format.mul 4607182418800017408 z=some r) :
   Calls Tryz.prog 231 #[.float .f64 x,.int .i64 n] w fun z w'=>z = .returned (.float .f64 r)/\w'=w:=by
 have hb:∀w,(callFunc 138 #[.float .f64 y]).run Tryz.prog w = .ok (.value (.int .u64 y)) w:=gW y;have hf:∀w,(callFunc 140 #[.int .u64 (z:Int)]).run Tryz.prog w = .ok (.value (.float .f64 z)) w:=oF z;have hm:∀w,(binOp .mul 180 (.float .f64 4607182418800017408) (.float .f64 z)).run Tryz.prog w = .ok (.float .f64 r) w:=fun w=>run_float_arith w .mul 180 .f64 4607182418800017408 z r hr;have hw:IntKind.u64.wrap (n+e+(q-1023)+1023)=(k:Int):=by rw[hE,IntKind.wrap_u64];omega
 have Z7:IntKind.u64.wrap ((k:Int)*4503599627370496)=(k:Int)*4503599627370496:=by rw[IntKind.wrap_u64];omega
 go_enter Tryz.func231,Tryz.ntmps231
 go_wp2_with (first|(go_at_call 189;refine(iw x _ hx).mono ?_;rintro z w1 ⟨rfl,rfl⟩)|(go_at_call 258;refine(oG x _).mono ?_;rintro z w1 ⟨rfl,rfl⟩)|(go_at_call 259;refine(hN _).mono ?_;rintro z w1 ⟨rfl,rfl⟩)|(go_at_call 261;refine(Dm _).mono ?_;rintro z w1 ⟨rfl,rfl⟩))
 all_goals first|(go_ret;exact⟨rfl,rfl⟩)|skip
theorem KJ(x:Nat)(n:Int)(w:World)(hx:x<18446744073709551616)(gY:0<=n)(eX:n<=32)(y:Nat)(q:Nat)(e:Int)(hy:y<18446744073709551616)(he:e=0\/e = -52)(UZ:q<=2047)(hq:bits .and .i64 ((y:Int)/4503599627370496) 2047=(q:Int))(hN:∀w,Calls Tryz.prog 259 #[.float .f64 x] w fun z w'=>z = .returned (.tuple #[.float .f64 y,.int .i64 e])/\w'=w)(h0:(bS x 0==some .eq)=false)(h1:(bS (fR x) 9218868437227405311==some .gt)=false)(h2:(bS x x != some .eq)=false)(k z r:Nat)(hE:n+e+(q-1023)+53+1023=k)(Re:1<=k)(vE:k<=53)(hz:bits .or .u64 (bits .andNot .u64 (y:Int) 9218868437227405312) ((k:Int)*4503599627370496)=(z:Int))(hr:FloatKind.f64.format.mul 4368491638549381120 z=some r) :
   Calls Tryz.prog 231 #[.float .f64 x,.int .i64 n] w fun z w'=>z = .returned (.float .f64 r)/\w'=w:=by
 have hb:∀w,(callFunc 138 #[.float .f64 y]).run Tryz.prog w = .ok (.value (.int .u64 y)) w:=gW y;have hf:∀w,(callFunc 140 #[.int .u64 (z:Int)]).run Tryz.prog w = .ok (.value (.float .f64 z)) w:=oF z;have hm:∀w,(binOp .mul 180 (.float .f64 4368491638549381120) (.float .f64 z)).run Tryz.prog w = .ok (.float .f64 r) w:=fun w=>run_float_arith w .mul 180 .f64 4368491638549381120 z r hr;have hw:IntKind.u64.wrap (n+e+(q-1023)+53+1023)=(k:Int):=by rw[hE,IntKind.wrap_u64];omega
 have Z7:IntKind.u64.wrap ((k:Int)*4503599627370496)=(k:Int)*4503599627370496:=by rw[IntKind.wrap_u64];omega
 go_enter Tryz.func231,Tryz.ntmps231
 go_wp2_with (first|(go_at_call 189;refine(iw x _ hx).mono ?_;rintro z w1 ⟨rfl,rfl⟩)|(go_at_call 258;refine(oG x _).mono ?_;rintro z w1 ⟨rfl,rfl⟩)|(go_at_call 259;refine(hN _).mono ?_;rintro z w1 ⟨rfl,rfl⟩)|(go_at_call 261;refine(Dm _).mono ?_;rintro z w1 ⟨rfl,rfl⟩))
 all_goals first|(go_ret;exact⟨rfl,rfl⟩)|skip
end
end
section
open Go.RowKit Go
section
variable (x:Nat)(n m:Int)(w:World)(hx:x<18446744073709551616)(gY:0<=n)(eX:n<=32)(rU:0<=m)(tT:m<=1099511627776)
theorem KK(x:Nat)(n:Int)(m:Int)(w:World)(hx:x<18446744073709551616)(gY:0<=n)(eX:n<=32)(rU:0<=m)(tT:m<=1099511627776)(h:(bS x x != some .eq)=true):Calls Tryz.prog 146 #[.float .f64 x,.int .i64 n,.int .i64 m] w fun e w'=>e = .returned (.tuple #[.int .i64 0,.int .i64 2])/\w'=w:=by
 go_enter Tryz.func146,Tryz.ntmps146
 go_wp2_with (go_at_call 189;refine(iw x _ hx).mono ?_;rintro z w1 ⟨rfl,rfl⟩)
 all_goals first|(go_ret2;exact⟨rfl,rfl⟩)|skip
 all_goals simp_all
theorem KL(x:Nat)(n:Int)(m:Int)(w:World)(hx:x<18446744073709551616)(gY:0<=n)(eX:n<=32)(rU:0<=m)(tT:m<=1099511627776)(h:(bS x x != some .eq)=false)(h1:(bS (fR x) 9218868437227405311==some .gt)=true):Calls Tryz.prog 146 #[.float .f64 x,.int .i64 n,.int .i64 m] w fun e w'=>e = .returned (.tuple #[.int .i64 0,.int .i64 3])/\w'=w:=by
 go_enter Tryz.func146,Tryz.ntmps146
 go_wp2_with (go_at_call 189;refine(iw x _ hx).mono ?_;rintro z w1 ⟨rfl,rfl⟩)
 all_goals first|(go_ret2;exact⟨rfl,rfl⟩)|skip
 all_goals simp_all
variable (l nr f:Nat)(hl:l<18446744073709551616)(oM:nr<18446744073709551616)
 (h:(bS x x != some .eq)=false) (h1:(bS (fR x) 9218868437227405311==some .gt)=false)
 (hL:∀w,Calls Tryz.prog 231 #[.float .f64 x,.int .i64 n] w fun z w'=>z = .returned (.float .f64 l)/\w'=w)
 (hR:∀w,(callFunc 190 #[.float .f64 l]).run Tryz.prog w = .ok (.value (.float .f64 nr)) w)
theorem BI(x:Nat)(n:Int)(m:Int)(hx:x<18446744073709551616)(gY:0<=n)(eX:n<=32)(rU:0<=m)(tT:m<=1099511627776)(l:Nat)(nr:Nat)(hl:l<18446744073709551616)(oM:nr<18446744073709551616)(h:(bS x x != some .eq)=false)(h1:(bS (fR x) 9218868437227405311==some .gt)=false)(hL:∀w,Calls Tryz.prog 231 #[.float .f64 x,.int .i64 n] w fun z w'=>z = .returned (.float .f64 l)/\w'=w)(hR:∀w,(callFunc 190 #[.float .f64 l]).run Tryz.prog w = .ok (.value (.float .f64 nr)) w)(w:World):Calls Tryz.prog 191 #[.float .f64 x,.int .i64 n] w fun z w'=>z = .returned (.float .f64 l)/\w'=w:=by
 go_enter Tryz.func191,Tryz.ntmps191
 go_wp2_with (go_at_call 231;refine(hL _).mono ?_;rintro z w1 ⟨rfl,rfl⟩)
 all_goals first|(go_ret;exact⟨rfl,rfl⟩)|skip
theorem E3(x:Nat)(n:Int)(m:Int)(w:World)(hx:x<18446744073709551616)(gY:0<=n)(eX:n<=32)(rU:0<=m)(tT:m<=1099511627776)(l:Nat)(nr:Nat)(hl:l<18446744073709551616)(oM:nr<18446744073709551616)(h:(bS x x != some .eq)=false)(h1:(bS (fR x) 9218868437227405311==some .gt)=false)(hL:∀w,Calls Tryz.prog 231 #[.float .f64 x,.int .i64 n] w fun z w'=>z = .returned (.float .f64 l)/\w'=w)(hR:∀w,(callFunc 190 #[.float .f64 l]).run Tryz.prog w = .ok (.value (.float .f64 nr)) w)(h4:(bS (fR nr) (floatOfInt .f64 m)==some .gt)=true):Calls Tryz.prog 146 #[.float .f64 x,.int .i64 n,.int .i64 m] w fun e w'=>e = .returned (.tuple #[.int .i64 0,.int .i64 4])/\w'=w:=by
 go_enter Tryz.func146,Tryz.ntmps146
 go_wp2_with (first|(go_at_call 189;refine(iw x _ hx).mono ?_;rintro z w1 ⟨rfl,rfl⟩)|(go_at_call 191;refine(BI x n m hx gY eX rU tT l nr hl oM h h1 hL hR _).mono ?_;rintro z w1 ⟨rfl,rfl⟩)|(go_at_call 192;refine(uU nr _ oM).mono ?_;rintro z w1 ⟨rfl,rfl⟩))
 all_goals first|(go_ret2;exact⟨rfl,rfl⟩)|skip
theorem Oe(x:Nat)(n:Int)(m:Int)(w:World)(hx:x<18446744073709551616)(gY:0<=n)(eX:n<=32)(rU:0<=m)(tT:m<=1099511627776)(l:Nat)(nr:Nat)(hl:l<18446744073709551616)(oM:nr<18446744073709551616)(h:(bS x x != some .eq)=false)(h1:(bS (fR x) 9218868437227405311==some .gt)=false)(hL:∀w,Calls Tryz.prog 231 #[.float .f64 x,.int .i64 n] w fun z w'=>z = .returned (.float .f64 l)/\w'=w)(hR:∀w,(callFunc 190 #[.float .f64 l]).run Tryz.prog w = .ok (.value (.float .f64 nr)) w)(v:Int)(h4:(bS (fR nr) (floatOfInt .f64 m)==some .gt)=false)(hv:floatToIntVal .f64 nr .i64=some v):Calls Tryz.prog 146 #[.float .f64 x,.int .i64 n,.int .i64 m] w fun e w'=>e = .returned (.tuple #[.int .i64 v,.int .i64 0])/\w'=w:=by
 have hc:∀w,(convert 180 3 (.float .f64 nr)).run Tryz.prog w = .ok (.int .i64 v) w:=fun w=>run_convert_float_int w 180 3 .f64 .i64 nr v (by kernel_rfl) (by kernel_rfl) hv;go_enter Tryz.func146,Tryz.ntmps146
 go_wp2_with (first|(go_at_call 189;refine(iw x _ hx).mono ?_;rintro z w1 ⟨rfl,rfl⟩)|(go_at_call 191;refine(BI x n m hx gY eX rU tT l nr hl oM h h1 hL hR _).mono ?_;rintro z w1 ⟨rfl,rfl⟩)|(go_at_call 192;refine(uU nr _ oM).mono ?_;rintro z w1 ⟨rfl,rfl⟩))
 all_goals first|(go_ret2;exact⟨rfl,rfl⟩)|skip
end
end
section
open Go.RowKit Go Ieee
def ng(x:Nat):Prop:=x<18446744073709551616/\x%9223372036854775808<=9218868437227405312
theorem Dp(s:Bool){r:Nat}(h:r<=9218868437227405312):ng (double.word s r):=by
 have e1:double.signWeight=9223372036854775808:=by decide
 unfold ng Format.word;rw[e1];cases s;simp only[Bool.false_eq_true,if_false];omega;simp only[if_true];omega
theorem Ha(s:Bool)(m:Nat)(p:Int):ng (double.nearest s m p):=by
 have e3:double.infRung=9218868437227405312:=by decide
 unfold Format.nearest;split;exact Dp s (by omega);exact Dp s (by rw[e3];exact Nat.min_le_right _ _)
def isNum:Datum->Bool
 |.nan .. =>false
 |_=>true
theorem E4{d:Datum}(h:isNum d=true):ng (double.write d):=by
 have e3:double.infRung=9218868437227405312:=by decide
 cases d with
 |number s m p=>exact Ha s m p
 |infinity s=>exact Dp s (by rw[e3];exact Nat.le_refl _)
 |nan s t=>cases h
theorem zE{x:Nat}(h:ng x):isNum (dJ x)=true:=by
 obtain⟨_,h⟩:=h;unfold dJ;split;rfl;split;rfl;split;rfl;omega
theorem IH{x:Nat}(hx:x<18446744073709551616)(h:(bS x x != some .eq)=false):ng x:=by
 refine⟨hx,?_⟩;rcases Nat.lt_or_ge 9218868437227405312 (x%9223372036854775808)with h1|h1;exfalso;rw[zF]at h;unfold dJ at h;rw[if_neg (by omega),if_neg (by omega),if_neg (by omega)]at h;exact absurd h (by simp[Datum.order]);exact h1
def nh:Datum->Bool
 |.number .. =>true
 |_=>false
theorem E5{a b:Datum}(ha:nh a=true)(hb:nh b=true):∃d,a.product b=some d/\isNum d=true:=by
 cases a<;>cases b<;>simp[nh]at ha hb;exact⟨_,rfl,rfl⟩
theorem Hb{x y:Nat}(hx:nh (dJ x)=true)(hy:nh (dJ y)=true):∃r,FloatKind.f64.format.mul x y=some r/\ng r:=by
 obtain⟨d,h1,h2⟩:=E5 hx hy;refine⟨double.write d,?_,E4 h2⟩;show((FloatKind.f64.format.read x).product (FloatKind.f64.format.read y)).map _=_;rw[su,su,h1];rfl
theorem Of{x:Nat}(h:x%9223372036854775808<9218868437227405312):nh (dJ x)=true:=by
 unfold dJ;split;rfl;rfl
def rL(l:Nat):Nat:=double.write ((dJ l).integral .even)
theorem E6{l:Nat}(h:ng l):ng (rL l):=by
 have h1:=zE h;refine E4 ?_;generalize dJ l=d at *;cases d with
 |number s m p=>rfl
 |infinity s=>rfl
 |nan s t=>cases h1
theorem Dq{l:Nat}(h:ng l):Extern.MathFloor.toIntegral "math.RoundToEven" .even #[.float .f64 l]=pure (.float .f64 (rL l)):=by
 have h1:=zE h;have h2:FloatKind.f64.decode l=dJ l:=su l
 conv=>lhs;unfold Extern.MathFloor.toIntegral;whnf
 rw[h2];unfold rL;generalize dJ l=d at *;cases d with
 |number s m p=>rfl
 |infinity s=>rfl
 |nan s t=>cases h1
theorem KM{l:Nat}(h:ng l)(w:World):(callFunc 190 #[.float .f64 l]).run Tryz.prog w = .ok (.value (.float .f64 (rL l))) w:=by
 rw[run_callFunc_extern Tryz.func190 (by kernel_rfl) (by kernel_rfl) (by kernel_rfl) (e:=Extern.MathFloor.toIntegral "math.RoundToEven" .even) (by kernel_rfl),Dq h];rfl
end
section
open Go.RowKit Go Ieee
def jc(y k:Nat):Nat:=y/9223372036854775808*9223372036854775808+y%4503599627370496+k*4503599627370496
theorem Dr{y:Nat}(hy:y<18446744073709551616):bits .andNot .u64 (y:Int) 9218868437227405312=(jc y 0:Int):=by
 have h1:(BitVec.ofInt 64 (y:Int)).toNat=y:=by
   rw[BitVec.ofInt_natCast,BitVec.toNat_ofNat];exact Nat.mod_eq_of_lt (by omega)
 show IntKind.u64.wrap ((BitVec.ofInt 64 (y:Int) &&& ~~~ BitVec.ofInt 64 9218868437227405312).toNat:Int)=_;have h2:(~~~ BitVec.ofInt 64 9218868437227405312).toNat=9227875636482146303:=by decide
 have h3:y &&& 9227875636482146303=jc y 0:=by
   refine Nat.eq_of_testBit_eq fun i=>?_;have e1:jc y 0=2 ^ 52*(2048*(y/9223372036854775808))+y%2 ^ 52:=by unfold jc;omega
   have e2:(9227875636482146303:Nat)=2 ^ 52*(2 ^ 11*1+0)+(2 ^ 52-1):=by decide
   have e3:2048*(y/9223372036854775808)=2 ^ 11*(y/9223372036854775808)+0:=by omega
   rw[e1,e2,Nat.testBit_and,Nat.testBit_two_pow_mul_add _ (by omega),Nat.testBit_two_pow_mul_add _ (Nat.mod_lt _ (by decide)),Nat.testBit_mod_two_pow,Nat.testBit_two_pow_sub_one,e3,Nat.testBit_two_pow_mul_add _ (by omega),Nat.testBit_two_pow_mul_add _ (by omega)];by_cases hi:i<52;simp[hi];simp only[hi,if_false];by_cases hj:i-52<11;simp[hj];simp only[hj,if_false];have:y/9223372036854775808<2:=by omega
   have e4:y.testBit i=(y/9223372036854775808).testBit (i-52-11):=by
     rw[show(9223372036854775808:Nat)=2 ^ 63 from rfl,Nat.testBit_div_two_pow];congr 1;omega
   rw[e4];have hv:y/9223372036854775808=0\/y/9223372036854775808=1:=by omega
   rcases hv with e|e<;>rw[e]<;>simp
 rw[BitVec.toNat_and,h1,h2,h3,IntKind.wrap_u64];unfold jc;omega
theorem E7{y k:Nat}(hy:y<18446744073709551616)(hk:k<2048):bits .or .u64 (bits .andNot .u64 (y:Int) 9218868437227405312) ((k:Int)*4503599627370496)=(jc y k:Int):=by
 rw[Dr hy,show((k:Int)*4503599627370496)=((k*4503599627370496:Nat):Int)by omega,bits_or_u64_nat _ _ (by unfold jc;omega) (by omega)];congr 1;refine Nat.eq_of_testBit_eq fun i=>?_;have e1:jc y k=2 ^ 52*(2 ^ 11*(y/9223372036854775808)+k)+y%2 ^ 52:=by unfold jc;omega
 have e0:jc y 0=2 ^ 52*(2 ^ 11*(y/9223372036854775808)+0)+y%2 ^ 52:=by unfold jc;omega
 have e2:k*4503599627370496=2 ^ 52*k+0:=by omega
 have hm:y%2 ^ 52<2 ^ 52:=Nat.mod_lt _ (by decide);have t0:=Nat.testBit_two_pow_mul_add (2 ^ 11*(y/9223372036854775808)+0) hm i;have t1:=Nat.testBit_two_pow_mul_add (2 ^ 11*(y/9223372036854775808)+k) hm i;have t2:=Nat.testBit_two_pow_mul_add k (show 0<2 ^ 52 by decide) i;rw[e1,e0,e2,Nat.testBit_or,t0,t1,t2];by_cases hi:i<52;simp[hi];rw[if_neg hi,if_neg hi,if_neg hi];have s0:=Nat.testBit_two_pow_mul_add (y/9223372036854775808) (show 0<2 ^ 11 by decide) (i-52);have s1:=Nat.testBit_two_pow_mul_add (y/9223372036854775808) (show k<2 ^ 11 by omega) (i-52);rw[s0,s1];by_cases hj:i-52<11;simp[hj];have:k.testBit (i-52)=false:=Nat.testBit_lt_two_pow (Nat.lt_of_lt_of_le (show k<2 ^ 11 by omega) (Nat.pow_le_pow_right (by omega) (by omega)));simp[hj,this]
theorem BJ{y k:Nat}(hk:k<=2046):nh (dJ (jc y k))=true:=Of (by unfold jc;omega)
theorem Og{y:Nat}(hy:y<18446744073709551616):bits .and .i64 ((y:Int)/4503599627370496) 2047=((y/4503599627370496%2048:Nat):Int):=by
 have ahz:(BitVec.ofInt 64 2047).toNat=2 ^ 11-1:=by decide
 have key:(BitVec.ofInt 64 ((y:Int)/4503599627370496) &&& BitVec.ofInt 64 2047).toNat=(((y:Int)/4503599627370496)%((2 ^ 64:Nat):Int)).toNat%2 ^ 11:=by
   rw[BitVec.toNat_and,BitVec.toNat_ofInt,ahz,Nat.and_two_pow_sub_one_eq_mod]
 show IntKind.i64.wrap ((BitVec.ofInt 64 ((y:Int)/4503599627370496) &&& BitVec.ofInt 64 2047).toNat:Nat)=_;rw[key,IntKind.wrap_i64];omega
def mulN(x y:Nat):Nat:=(FloatKind.f64.format.mul x y).getD 0
theorem Ds{x y:Nat}(hx:nh (dJ x)=true)(hy:nh (dJ y)=true):FloatKind.f64.format.mul x y=some (mulN x y)/\ng (mulN x y):=by
 obtain⟨r,h1,h2⟩:=Hb hx hy;unfold mulN;rw[h1];exact⟨rfl,h2⟩
theorem Tj{x:Nat}(hx:x<18446744073709551616)(h1:(bS (fR x) 9218868437227405311==some .gt)=false)(h2:(bS x x != some .eq)=false):nh (dJ x)=true:=by
 have h:=IH hx h2;refine Of ?_;have:=h.2;rcases Nat.lt_or_ge (x%9223372036854775808) 9218868437227405312 with h3|h3;exact h3;exfalso;have e:fR x=9218868437227405312:=by unfold fR;omega
 rw[e]at h1;exact absurd h1 (by decide)
def ni(x:Nat):Nat×Int:=if(bS (fR x) 4503599627370496==some .lt)=true then(mulN x 4841369599423283200,-52)else(x,0)
def Z8(x:Nat)(n:Int):Int:=n+(ni x).2+(((ni x).1/4503599627370496%2048:Nat)-1023)
def XW(x:Nat)(n:Int):Nat:=
 if(bS x 0==some .eq)=true then x
 else if Z8 x n < -1075 then AR (ni x).1
 else if 1023<Z8 x n then(if(bS (ni x).1 0==some .lt)=true then 18442240474082181120 else 9218868437227405312)
 else if -1022<=Z8 x n then mulN 4607182418800017408 (jc (ni x).1 (Z8 x n+1023).toNat)
 else mulN 4368491638549381120 (jc (ni x).1 (Z8 x n+53+1023).toNat)
theorem Oh{x:Nat}(hx:x<18446744073709551616)(hf:nh (dJ x)=true):(ni x).1<18446744073709551616/\((ni x).2=0\/(ni x).2 = -52)/\∀w,Calls Tryz.prog 259 #[.float .f64 x] w fun z w'=>z = .returned (.tuple #[.float .f64 (ni x).1,.int .i64 (ni x).2])/\w'=w:=by
 unfold ni;by_cases h:(bS (fR x) 4503599627370496==some .lt)=true;obtain⟨h1,h2⟩:=Ds hf (show nh (dJ 4841369599423283200)=true by decide);rw[if_pos h];exact⟨h2.1,.inr rfl,fun w=>xA x _ w hx h h1⟩;rw[if_neg h];exact⟨hx,.inl rfl,fun w=>xy x w hx (Bool.eq_false_iff.2 h)⟩
theorem Oi(x:Nat)(n:Int)(hx:x<18446744073709551616)(gY:0<=n)(eX:n<=32)(h1:(bS (fR x) 9218868437227405311==some .gt)=false)(h2:(bS x x != some .eq)=false) :
   ng (XW x n)/\∀w,Calls Tryz.prog 231 #[.float .f64 x,.int .i64 n] w fun z w'=>z = .returned (.float .f64 (XW x n))/\w'=w:=by
 have hf:=Tj hx h1 h2;unfold XW;by_cases h0:(bS x 0==some .eq)=true;rw[if_pos h0];exact⟨IH hx h2,fun w=>G9 x n w hx gY eX h0⟩;rw[if_neg h0];have h0:=Bool.eq_false_iff.2 h0;obtain⟨hy,he,hN⟩:=Oh hx hf;have hq:=Og hy;unfold Z8;generalize(ni x).1=y at *;generalize(ni x).2=e at *;have Lb:y/4503599627370496%2048<=2047:=by omega
 generalize hqe:y/4503599627370496%2048=q at *;have L:=fun(w:World)=>@KF x n w hx gY eX y q e hy he Lb hq hN h0 h1 h2;by_cases c1:n+e+((q:Int)-1023) < -1075;rw[if_pos c1];refine⟨⟨?_,?_⟩,fun w=>L w c1⟩<;>unfold AR<;>omega;rw[if_neg c1];by_cases c2:1023<n+e+((q:Int)-1023);rw[if_pos c2];by_cases c3:(bS y 0==some .lt)=true;rw[if_pos c3];exact⟨⟨by decide,by decide⟩,fun w=>@KG x n w hx gY eX y q e hy he Lb hq hN h0 h1 h2 c2 c3⟩;rw[if_neg c3];exact⟨⟨by decide,by decide⟩,fun w=>@KH x n w hx gY eX y q e hy he Lb hq hN h0 h1 h2 c2 (Bool.eq_false_iff.2 c3)⟩;rw[if_neg c2];by_cases c4: -1022<=n+e+((q:Int)-1023);rw[if_pos c4];obtain⟨k,hk⟩:∃k:Nat,n+e+((q:Int)-1023)+1023=k:=⟨(n+e+((q:Int)-1023)+1023).toNat,by omega⟩;rw[hk,Int.toNat_natCast];have hz:=E7 hy (show k<2048 by omega);obtain⟨hr,Rt⟩:=Ds (show nh (dJ 4607182418800017408)=true by decide) (BJ (y:=y) (show k<=2046 by omega));exact⟨Rt,fun w=>@KI x n w hx gY eX y q e hy he Lb hq hN h0 h1 h2 k _ _ hk (by omega) (by omega) hz hr⟩;rw[if_neg c4];obtain⟨k,hk⟩:∃k:Nat,n+e+((q:Int)-1023)+53+1023=k:=⟨(n+e+((q:Int)-1023)+53+1023).toNat,by omega⟩;rw[hk,Int.toNat_natCast];have hz:=E7 hy (show k<2048 by omega);obtain⟨hr,Rt⟩:=Ds (show nh (dJ 4368491638549381120)=true by decide) (BJ (y:=y) (show k<=2046 by omega));exact⟨Rt,fun w=>@KJ x n w hx gY eX y q e hy he Lb hq hN h0 h1 h2 k _ _ hk (by omega) (by omega) hz hr⟩
end
section
open Go.RowKit Go Ieee
theorem Hc(r:Nat):double.word false r=r:=rfl
theorem Hd{d b:Nat}(hd:d<=1074)(jn:4503599627370496<=b)(vp:b<9007199254740992):dJ (d*4503599627370496+b) = .number false b (-1074+(d:Int)):=by
 have h1:(d*4503599627370496+b)%9223372036854775808=d*4503599627370496+b:=Nat.mod_eq_of_lt (by omega);have h2:(d*4503599627370496+b)/9223372036854775808=0:=Nat.div_eq_of_lt (by omega);have h3:(d*4503599627370496+b)%4503599627370496=b-4503599627370496:=by omega
 have h4:(d*4503599627370496+b)/4503599627370496=d+1:=by omega
 unfold dJ;rw[h1,h2,if_neg (by omega),if_pos (by omega),h3,h4,Nat.add_sub_cancel,show 4503599627370496+(b-4503599627370496)=b by omega];rfl
theorem Oj(k:Nat):Toward.even.cut false k 0=k:=by
 unfold Toward.cut;simp[Nat.mod_one]
theorem He{m L u:Nat}(h0:m≠0)(hL:m.log2=L)(hu:L+u=52):double.nearest false m 0=min ((1074-u)*4503599627370496+m*2 ^ u) 9218868437227405312:=by
 have e2:double.binade=4503599627370496:=by decide
 have e3:double.infRung=9218868437227405312:=by decide
 have e4:double.leastPlace = -1074:=by decide
 have e5:(double.fractionBits:Int)=52:=by decide
 have acm:max ((0:Int)+L-52) (-1074) = -(u:Int):=by omega
 unfold Format.nearest;rw[if_neg h0,Hc];simp only[hL,e2,e3,e4,e5,acm];have AY:((0:Int) - -(u:Int)).toNat=u:=by omega
 have J0:(-(u:Int)-0).toNat=0:=by omega
 have ht:(-(u:Int) - -1074).toNat=1074-u:=by omega
 rw[AY,J0,ht,Oj,Nat.shiftLeft_eq]
theorem E8{m L u:Nat}(h0:m≠0)(hL:m.log2=L)(hu:L+u=52):4503599627370496<=m*2 ^ u/\m*2 ^ u<9007199254740992:=by
 have Fz:2 ^ L<=m:=by rw[<- hL];exact Nat.log2_self_le h0
 have FF:m<2 ^ (L+1):=by rw[<- hL];exact Nat.lt_log2_self
 have h1:2 ^ L*2 ^ u<=m*2 ^ u:=Nat.mul_le_mul_right _ Fz;have h2:m*2 ^ u<2 ^ (L+1)*2 ^ u:=Nat.mul_lt_mul_of_pos_right FF (Nat.two_pow_pos u);rw[<- Nat.pow_add,hu]at h1;rw[<- Nat.pow_add,show L+1+u=53 by omega]at h2;exact⟨h1,h2⟩
theorem of_int(m:Nat):floatOfInt .f64 (m:Int)=double.nearest false m 0:=by
 show double.nearest (decide ((m:Int)<0)) (m:Int).natAbs 0=_;rw[decide_eq_false (by omega),Int.natAbs_natCast]
theorem XY{m:Nat}(hm:m<9007199254740992):∃(b:Nat) (u:Nat),dJ (floatOfInt .f64 (m:Int)) = .number false b (-(u:Int))/\b=m*2 ^ u:=by
 rw[of_int];rcases Nat.eq_zero_or_pos m with h0|h0;subst h0;obtain⟨u,hu⟩:∃u:Nat,u=1074:=⟨_,rfl⟩;exact⟨0,u,by subst hu;decide,(Nat.zero_mul _).symm⟩;have hl3:m.log2<53:=(Nat.log2_lt (by omega)).2 hm;obtain⟨u,hu⟩:∃u:Nat,m.log2+u=52:=⟨52-m.log2,by omega⟩;obtain⟨h1,h2⟩:=E8 (by omega) rfl hu;rw[He (by omega) rfl hu];have hd:1074-u<=1074:=Nat.sub_le ..;have hd2:(1074-u:Nat)=1074-(u:Int):=by omega
 generalize 1074-u=d at *;refine⟨m*2 ^ u,u,?_,rfl⟩;generalize m*2 ^ u=b at *;rw[Nat.min_eq_left (by omega),Hd hd h1 h2];congr 1;omega
theorem Ol(x:Nat):dJ (fR x)=match dJ x with
   |.number _ m p=>.number false m p
   |.infinity _=>.infinity false
   |.nan _ t=>.nan false t:=by
 have h1:fR x%9223372036854775808=x%9223372036854775808:=by unfold fR;omega
 have h2:fR x/9223372036854775808=0:=by unfold fR;omega
 unfold dJ;rw[h1,h2];split;rfl;split;rfl;split<;>rfl
theorem XZ{a b:Nat}(h:(some (compare (signed false a 0) (signed false b 0))==some Ordering.gt)=false):a<=b:=by
 rcases Nat.lt_or_ge b a with h1|h1;exfalso;have:compare (signed false a 0) (signed false b 0) = .gt:=by
   rw[ga,ga,Nat.shiftLeft_zero,Nat.shiftLeft_zero];exact Int.compare_eq_gt.2 (by omega)
 rw[this]at h;exact absurd h (by decide);exact h1
theorem BK(a u:Nat):signed false a u=signed false (a*2 ^ u) 0:=by
 rw[ga,ga,Nat.shiftLeft_zero,Nat.shiftLeft_eq]
theorem X4{a m u:Nat}{p:Int}(h:(Datum.order (.number false a p) (.number false (m*2 ^ u) (-(u:Int)))==some Ordering.gt)=false)(s:Bool):Toward.zero.cut s (a <<< p.toNat) (-p).toNat<=m:=by
 have hk:∀n d,Toward.zero.cut s n d=n/2 ^ (min d (n.log2+2)):=by
   intro n d;unfold Toward.cut;simp only[Bool.toNat_false,Nat.add_zero,Nat.shiftLeft_eq,Nat.one_mul]
 rw[hk,Nat.shiftLeft_eq];simp only[Datum.order]at h;rw[BK,BK (m*2 ^ u)]at h;have h:=XZ h;by_cases hp:0<=p;obtain⟨i,rfl⟩:∃i:Nat,p=i:=⟨p.toNat,by omega⟩;have e1:((i:Int)-min (i:Int) (-(u:Int))).toNat=i+u:=by omega
 have e2:(-(u:Int)-min (i:Int) (-(u:Int))).toNat=0:=by omega
 rw[e1,e2,Nat.pow_zero,Nat.mul_one,Nat.pow_add,<- Nat.mul_assoc]at h;have e3:(-(i:Int)).toNat=0:=by omega
 rw[e3,Nat.zero_min,Nat.pow_zero,Nat.div_one,Int.toNat_natCast];exact Nat.le_of_mul_le_mul_right h (Nat.two_pow_pos _);obtain⟨i,rfl⟩:∃i:Nat,p = -(i:Int):=⟨(-p).toNat,by omega⟩;have e3:(-(i:Int)).toNat=0:=by omega
 have e4:(- -(i:Int)).toNat=i:=by omega
 rw[e3,e4,Nat.pow_zero,Nat.mul_one];have hle:a<=m*2 ^ i:=by
   rcases Nat.le_total i u with hiu|hiu;have e1:(-(i:Int)-min (-(i:Int)) (-(u:Int))).toNat=u-i:=by omega
   have e2:(-(u:Int)-min (-(i:Int)) (-(u:Int))).toNat=0:=by omega
   rw[e1,e2,Nat.pow_zero,Nat.mul_one]at h;have e5:m*2 ^ u=(m*2 ^ i)*2 ^ (u-i):=by
     rw[Nat.mul_assoc,<- Nat.pow_add];congr 2;omega
   rw[e5]at h;exact Nat.le_of_mul_le_mul_right h (Nat.two_pow_pos _);have e1:(-(i:Int)-min (-(i:Int)) (-(u:Int))).toNat=0:=by omega
   have e2:(-(u:Int)-min (-(i:Int)) (-(u:Int))).toNat=i-u:=by omega
   rw[e1,e2,Nat.pow_zero,Nat.mul_one,Nat.mul_assoc,<- Nat.pow_add,show u+(i-u)=i by omega]at h;exact h
 rcases Nat.le_total i (a.log2+2)with hi|hi;rw[Nat.min_eq_left hi];exact Nat.div_le_of_le_mul (by rw[Nat.mul_comm];exact hle);rw[Nat.min_eq_right hi];have h1:a<2 ^ (a.log2+1):=Nat.lt_log2_self;have h2:2 ^ (a.log2+1)<=2 ^ (a.log2+2):=Nat.pow_le_pow_right (by omega) (by omega);rw[Nat.div_eq_of_lt (by omega)];exact Nat.zero_le _
def Om(x:Nat):Int:=((dJ x).toInt .zero).getD 0
theorem On{nr m:Nat}(h0:ng nr)(hm:m<=1099511627776)(h:(bS (fR nr) (floatOfInt .f64 (m:Int))==some .gt)=false) :
   floatToIntVal .f64 nr .i64=some (Om nr)/\-(m:Int)<=Om nr/\Om nr<=m:=by
 obtain⟨b,u,hb,rfl⟩:=XY (m:=m) (by omega);rw[zF,hb,Ol]at h;have h1:=zE h0;have hd:FloatKind.f64.decode nr=dJ nr:=su nr;unfold floatToIntVal;rw[hd];unfold Om;have EF:IntKind.i64.min = -9223372036854775808:=by decide
 have X5:IntKind.i64.max=9223372036854775807:=by decide
 generalize dJ nr=d at *;cases d with
 | number s a p=>
   have hc:=X4 h s;simp only[Datum.toInt,Datum.integral];generalize Toward.zero.cut s (a <<< p.toNat) (-p).toNat=k at *;have hv:signed s k 0=k\/signed s k 0 = -(k:Int):=by
     cases s;left;rw[ga,Nat.shiftLeft_zero];right;rw[wZ,Nat.shiftLeft_zero]
   generalize signed s k 0=v at *;rw[EF,X5,if_pos (by omega)];refine⟨rfl,?_⟩;show -(m:Int)<=v/\v<=m;omega
 |infinity s=>exact absurd h (by simp[Datum.order])
 |nan s t=>cases h1
end
section
open Go.Sx Go.RowKit Go
def gX(x top:Nat):Int×Int:=
 if(bS x x != some .eq)=true then(0,2)
 else if(bS x 0==some .lt||bS x 0==some .eq)=true then(0,0)
 else if(bS x 4607182418800017408==some .gt||bS x 4607182418800017408==some .eq)=true then(top,0)
 else if 128<=1075-x/4503599627370496 then(0,0)
 else(((ta x*top/2 ^ (1075-x/4503599627370496):Nat):Int),0)
theorem Q0(x top:Nat)(w:World)(hx:x<18446744073709551616)(h0:top<=16777216):Calls Tryz.prog 87 #[.float .f64 x,.int .i64 top] w fun e w'=>e = .returned (.tuple #[.int .i64 (gX x top).1,.int .i64 (gX x top).2])/\w'=w:=by
 unfold gX;by_cases h1:(bS x x != some .eq)=true;rw[if_pos h1];exact QW x top w hx h0 h1;rw[if_neg h1];have h1:=xn.2 h1;by_cases h2:(bS x 0==some .lt||bS x 0==some .eq)=true;rw[if_pos h2];exact QX x top w hx h0 h1 h2;rw[if_neg h2];have h2:=xn.2 h2;by_cases h3:(bS x 4607182418800017408==some .gt||bS x 4607182418800017408==some .eq)=true;rw[if_pos h3];exact K7 x top w hx h0 h1 h2 h3;rw[if_neg h3];have h3:=xn.2 h3;have hq:=zZ hx h1 h2 h3;by_cases h4:128<=1075-x/4503599627370496;rw[if_pos h4];exact K8 x top w hx h0 h1 h2 h3 (1075-x/4503599627370496) (by omega) h4;rw[if_neg h4];rcases pf (1075-x/4503599627370496) 64 with h5|h5;exact QY x top w hx h0 h1 h2 h3 (1075-x/4503599627370496) (by omega) (by omega) (by omega);exact QZ x top w hx h0 h1 h2 h3 (1075-x/4503599627370496) (by omega) h5 (by omega)
theorem TV{x top:Nat}(hx:x<18446744073709551616)(h0:top<=16777216):(0<=(gX x top).1/\(gX x top).1<=top)/\0<=(gX x top).2/\(gX x top).2<=12:=by
 unfold gX;split;simp;split;simp;split;simp;rename_i h1 h2 h3;have hq:=zZ hx (xn.2 h1) (xn.2 h2) (xn.2 h3);split;simp;refine⟨⟨Int.natCast_nonneg _,?_⟩,by simp,by simp⟩;have h:ta x*top/2 ^ (1075-x/4503599627370496)<=top:=by
   refine Nat.div_le_of_le_mul ?_;have hf:=u4 x;have hp:2 ^ 53<=2 ^ (1075-x/4503599627370496):=Nat.pow_le_pow_right (by omega) (by omega);exact vn _ (jS (Nat.le_of_lt hf) hp)
 exact Int.ofNat_le.2 h
def TW:List DV->Option (List DV)
 | [.i x,.i top]=>if Ls x&&(decide (0<=top)&&decide (top<=16777216))then some [.i (gX x.toNat top.toNat).1,.i (gX x.toNat top.toNat).2]else none
 |_=>none
theorem adl{Wd:World->Prop}:Has Tryz.prog Wd 87 (Dk TR TW):=by
 unfold Has;refine .inl ⟨fun w args=>da Tryz.func87 rfl rfl w args,fun w vs ds hw ha hp=>?_⟩;obtain⟨rs,_,hx⟩:=hp;obtain⟨bL,rfl,hf⟩:=ha;unfold TW at hx;split at hx;rename_i x top;split at hx;rename_i hc;cases hx;have CP:=hc;simp only[ah,aD]at CP
 match bL,hf with
 | [a,b],hf=>
   obtain⟨ha,hb,_⟩:=hf;simp only[jE]at ha hb;subst ha;subst hb;obtain⟨m,rfl,hm⟩:=tN CP.1;obtain⟨n,rfl⟩:∃n:Nat,top=n:=⟨top.toNat,by omega⟩;refine(Q0 m n w hm (by omega)).mono ?_;rintro e w' ⟨rfl,rfl⟩;refine⟨[.int .i64 (gX m n).1,.int .i64 (gX m n).2],[.i (gX m n).1,.i (gX m n).2],rfl,Below.refl _ _,⟨rfl,rfl,trivial⟩,Dl,?_⟩;show TW _=_;simp only[TW,hc,if_true,xe]
 cases hx;cases hx
variable {X:bD}
theorem ake:lO Tryz.prog jZ 87=none:=by kernel_rfl
theorem k87:kc 87=⟨[.i 0 18446744073709551615,.i 0 16777216],[],[.i 0 16777216,.i 0 12],[.le (rr 0) (.v 1)]⟩:=by kernel_rfl
theorem g87(hX:X 87=TW):qn (lO Tryz.prog jZ) X 87 (kc 87).fQ (kc 87).iA:=by
 rw[k87];rintro ds ⟨ha,_⟩
 match ds,ha with
 | [.i x,.i top],ha=>
   have hx:0<=x/\x<=18446744073709551615:=ha.1;have ht:0<=top/\top<=16777216:=ha.2.1;obtain⟨⟨u0,u1⟩,u2,u3⟩:=TV (x:=x.toNat) (top:=top.toNat) (by omega) (by omega);refine⟨[.i (gX x.toNat top.toNat).1,.i (gX x.toNat top.toNat).2],im ake ?_,⟨⟨u0,by omega⟩,⟨u2,u3⟩,trivial⟩,fun p hp=>?_⟩;rw[hX];simp only[TW,pU hx,Bool.true_and];rw[if_pos];simp only[ah,aD];exact ht;obtain rfl:p = .le (rr 0) (.v 1):=by simpa using hp
   have q0:il [.i x,.i top] [.i (gX x.toNat top.toNat).1,.i (gX x.toNat top.toNat).2] R0 = .i (gX x.toNat top.toNat).1:=by
     have:=aA.dr (U:=bB.ay 0 [DV.i x,DV.i top]) (k:=R0) (ds:=[DV.i (gX x.toNat top.toNat).1,DV.i (gX x.toNat top.toNat).2]) (i:=0) rfl;exact this
   have q1:il [.i x,.i top] [.i (gX x.toNat top.toNat).1,.i (gX x.toNat top.toNat).2] 1 = .i top:=by
     rw[il,aA.bn (by unfold R0;omega)];exact aA.dr (U:=bB) (k:=0) (ds:=[DV.i x,DV.i top]) (i:=1) rfl
   simp only[BE.ae,IE.ae,rr,gA,q0,q1,DV.int,aD];omega
end
section
open Go.Sx Go.RowKit Go
def eT(x:Nat)(n m:Int):Int×Int:=
 if(bS x x != some .eq)=true then(0,2)
 else if(bS (fR x) 9218868437227405311==some .gt)=true then(0,3)
 else if(bS (fR (rL (XW x n))) (floatOfInt .f64 m)==some .gt)=true then(0,4)
 else(Om (rL (XW x n)),0)
theorem KN(x:Nat)(n m:Int)(w:World)(hx:x<18446744073709551616)(gY:0<=n)(eX:n<=32)(rU:0<=m)(tT:m<=1099511627776):Calls Tryz.prog 146 #[.float .f64 x,.int .i64 n,.int .i64 m] w fun e w'=>e = .returned (.tuple #[.int .i64 (eT x n m).1,.int .i64 (eT x n m).2])/\w'=w:=by
 unfold eT;by_cases h1:(bS x x != some .eq)=true;rw[if_pos h1];exact KK x n m w hx gY eX rU tT h1;rw[if_neg h1];have h1:=xn.2 h1;by_cases h2:(bS (fR x) 9218868437227405311==some .gt)=true;rw[if_pos h2];exact KL x n m w hx gY eX rU tT h1 h2;rw[if_neg h2];have h2:=xn.2 h2;obtain⟨hl,hL⟩:=Oi x n hx gY eX h2 h1;have hr:=E6 hl;have hR:=fun w=>KM hl w;by_cases h3:(bS (fR (rL (XW x n))) (floatOfInt .f64 m)==some .gt)=true;rw[if_pos h3];exact E3 x n m w hx gY eX rU tT _ _ hl.1 hr.1 h1 h2 hL hR h3;rw[if_neg h3];have h3:=xn.2 h3;obtain⟨k,rfl⟩:∃k:Nat,m=k:=⟨m.toNat,by omega⟩;obtain⟨hv,_⟩:=On hr (by omega) h3;exact Oe x n k w hx gY eX rU tT _ _ hl.1 hr.1 h1 h2 hL hR _ h3 hv
theorem Oo{x:Nat}{n m:Int}(hx:x<18446744073709551616)(gY:0<=n)(eX:n<=32)(rU:0<=m)(tT:m<=1099511627776):(-m<=(eT x n m).1/\(eT x n m).1<=m)/\0<=(eT x n m).2/\(eT x n m).2<=12:=by
 unfold eT;by_cases h1:(bS x x != some .eq)=true;rw[if_pos h1];exact⟨⟨by omega,rU⟩,by decide,by decide⟩;rw[if_neg h1];have h1:=xn.2 h1;by_cases h2:(bS (fR x) 9218868437227405311==some .gt)=true;rw[if_pos h2];exact⟨⟨by omega,rU⟩,by decide,by decide⟩;rw[if_neg h2];have h2:=xn.2 h2;obtain⟨hl,hL⟩:=Oi x n hx gY eX h2 h1;have hr:=E6 hl;by_cases h3:(bS (fR (rL (XW x n))) (floatOfInt .f64 m)==some .gt)=true;rw[if_pos h3];exact⟨⟨by omega,rU⟩,by decide,by decide⟩;rw[if_neg h3];have h3:=xn.2 h3;obtain⟨k,rfl⟩:∃k:Nat,m=k:=⟨m.toNat,by omega⟩;obtain⟨_,hv⟩:=On hr (by omega) h3;exact⟨hv,Int.le_refl _,by show(0:Int)<=12;decide⟩
def Dt:List DV->Option (List DV)
 | [.i x,.i n,.i m]=>if Ls x&&((decide (0<=n)&&decide (n<=32))&&(decide (0<=m)&&decide (m<=1099511627776)))then some [.i (eT x.toNat n m).1,.i (eT x.toNat n m).2]else none
 |_=>none
theorem X6{Wd:World->Prop}:Has Tryz.prog Wd 146 (Dk II Dt):=by
 unfold Has;refine .inl ⟨fun w args=>da Tryz.func146 rfl rfl w args,fun w vs ds hw ha hp=>?_⟩;obtain⟨rs,_,hx⟩:=hp;obtain⟨bL,rfl,hf⟩:=ha;unfold Dt at hx;split at hx;rename_i x n m;split at hx;rename_i hc;cases hx;have CP:=hc;simp only[ah,aD]at CP
 match bL,hf with
 | [a,b,c],hf=>
   obtain⟨ha,hb,Zz,_⟩:=hf;simp only[jE]at ha hb Zz;subst ha;subst hb;subst Zz;obtain⟨k,rfl,hm⟩:=tN CP.1;refine(KN k n m w hm CP.2.1.1 CP.2.1.2 CP.2.2.1 CP.2.2.2).mono ?_;rintro e w' ⟨rfl,rfl⟩;refine⟨[.int .i64 (eT k n m).1,.int .i64 (eT k n m).2],[.i (eT k n m).1,.i (eT k n m).2],rfl,Below.refl _ _,⟨rfl,rfl,trivial⟩,Dl,?_⟩;show Dt _=_;simp only[Dt,hc,if_true,xe]
 cases hx;cases hx
variable {X:bD}
theorem acn:lO Tryz.prog jZ 146=none:=by kernel_rfl
theorem ahA:kc 146=⟨[.i 0 18446744073709551615,.i 0 32,.i 0 1099511627776],[],[.i (-1099511627776) 1099511627776,.i 0 12],[.le (.sub (.c 0) (.v 2)) (rr 0),.le (rr 0) (.v 2)]⟩:=by kernel_rfl
theorem ahB(hX:X 146=Dt):qn (lO Tryz.prog jZ) X 146 (kc 146).fQ (kc 146).iA:=by
 rw[ahA];rintro ds ⟨ha,_⟩
 match ds,ha with
 | [.i x,.i n,.i m],ha=>
   have hx:0<=x/\x<=18446744073709551615:=ha.1;have hn:0<=n/\n<=32:=ha.2.1;have hm:0<=m/\m<=1099511627776:=ha.2.2.1;obtain⟨⟨u0,u1⟩,u2,u3⟩:=Oo (x:=x.toNat) (n:=n) (m:=m) (by omega) hn.1 hn.2 hm.1 hm.2;refine⟨[.i (eT x.toNat n m).1,.i (eT x.toNat n m).2],im acn ?_,⟨⟨by omega,by omega⟩,⟨u2,u3⟩,trivial⟩,fun p hp=>?_⟩;rw[hX];simp only[Dt,pU hx,Bool.true_and];rw[if_pos];simp only[ah,aD];exact⟨hn,hm⟩;have q0:il [.i x,.i n,.i m] [.i (eT x.toNat n m).1,.i (eT x.toNat n m).2] R0 = .i (eT x.toNat n m).1:=by
     have:=aA.dr (U:=bB.ay 0 [DV.i x,DV.i n,DV.i m]) (k:=R0) (ds:=[DV.i (eT x.toNat n m).1,DV.i (eT x.toNat n m).2]) (i:=0) rfl;exact this
   have q2:il [.i x,.i n,.i m] [.i (eT x.toNat n m).1,.i (eT x.toNat n m).2] 2 = .i m:=by
     rw[il,aA.bn (by unfold R0;omega)];exact aA.dr (U:=bB) (k:=0) (ds:=[DV.i x,DV.i n,DV.i m]) (i:=2) rfl
   have yM:p = .le (.sub (.c 0) (.v 2)) (rr 0)\/p = .le (rr 0) (.v 2):=by simpa using hp
   rcases yM with rfl|rfl;simp only[BE.ae,IE.ae,rr,gA,q0,q2,DV.int,aD];omega;simp only[BE.ae,IE.ae,rr,gA,q0,q2,DV.int,aD];omega
end
section
open Go.Sx Go.RowKit Go
def XX(f:List DV->Option (List DV)):bD:=fun k ds=>
 if k=283 then vU ds else if k=140 then Dh ds else if k=243 then Di ds else if k=266 then Dj ds else if k=87 then TW ds else if k=146 then Dt ds else if k=169 then f ds else none
variable (f:List DV->Option (List DV))
theorem adm:XX f 283=vU:=rfl
theorem adn:XX f 140=Dh:=rfl
theorem ado:XX f 243=Di:=rfl
theorem adp:XX f 266=Dj:=rfl
theorem akf:XX f 87=TW:=rfl
theorem adq:XX f 146=Dt:=rfl
theorem Vd{k:Nat}(h:Xd k=true):k=283\/k=140\/k=243\/k=266\/k=87\/k=146\/k=169:=by
 obtain⟨x,hx,e⟩:=kI.1 h;have e:=vz e;subst e;simpa[xs]using hx
theorem Zu{k:Nat}(h:Xd k=false):k≠283/\k≠140/\k≠243/\k≠266/\k≠87/\k≠146/\k≠169:=by
 refine⟨?_,?_,?_,?_,?_,?_,?_⟩<;>(rintro rfl;exact absurd h (by decide))
theorem Q1:qp 283=some IV:=by kernel_rfl
theorem Q2:qp 140=some IG:=by kernel_rfl
theorem Q3:qp 243=some ID:=by kernel_rfl
theorem Q4:qp 266=some IF:=by kernel_rfl
theorem Ve:qp 87=some TR:=by kernel_rfl
theorem Q5:qp 146=some II:=by kernel_rfl
theorem Q6:qp 169=some zW:=by kernel_rfl
theorem adb(hr:fv)(akg:Has Tryz.prog Wd 169 (Dk zW f))(Yy:∀ds rs,f ds=some rs->kinds (bt zW.res) rs=true):yZ Tryz.prog Wd (TT Tryz.prog) (XX f) Xd qp:=by
 refine Zt hr (fun k hk s hs=>?_) (fun k s hk hs ds rs h=>?_) (fun k ds hk=>?_);rcases Vd hk with rfl|rfl|rfl|rfl|rfl|rfl|rfl;rw[Q1]at hs;cases hs;exact Yf;rw[Q2]at hs;cases hs;exact XU;rw[Q3]at hs;cases hs;exact XS;rw[Q4]at hs;cases hs;exact XT;rw[Ve]at hs;cases hs;exact adl;rw[Q5]at hs;cases hs;exact X6;rw[Q6]at hs;cases hs;exact akg;rcases Vd hk with rfl|rfl|rfl|rfl|rfl|rfl|rfl;rw[Q1]at hs;cases hs;rw[adm]at h;unfold vU at h;split at h;split at h<;>cases h;rfl;cases h;rw[Q2]at hs;cases hs;rw[adn]at h;unfold Dh at h;split at h;split at h<;>cases h;rfl;cases h;rw[Q3]at hs;cases hs;rw[ado]at h;unfold Di at h;split at h;split at h<;>cases h;rfl;cases h;rw[Q4]at hs;cases hs;rw[adp]at h;unfold Dj at h;split at h;split at h<;>cases h;rfl;cases h;rw[Ve]at hs;cases hs;rw[akf]at h;unfold TW at h;split at h;split at h<;>cases h;rfl;cases h;rw[Q5]at hs;cases hs;rw[adq]at h;unfold Dt at h;split at h;split at h<;>cases h;rfl;cases h;rw[Q6]at hs;cases hs;exact Yy ds rs h;obtain⟨h1,h2,h3,h4,h5,h6,h7⟩:=Zu hk;simp only[XX,h1,h2,h3,h4,h5,h6,h7,if_false]
theorem ajG(hr:fv):yZ Tryz.prog Wd (TT Tryz.prog) (XX fun _=>none) Xd qp:=
 adb _ hr (by
   unfold Has;refine .inl ⟨fun w args=>da Tryz.func169 rfl rfl w args,fun w vs ds hw ha hp=>?_⟩;obtain⟨rs,_,hx⟩:=hp;cases hx) (fun ds rs h=>by cases h)
end
end Go.Proofs.YtohebioanhliiaaGreatDoor.aw
