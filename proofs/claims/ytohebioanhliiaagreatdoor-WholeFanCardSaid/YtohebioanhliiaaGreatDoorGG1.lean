/- real.Unit and real.Fixed, by the walk. -/
import Derived.Test.YtohebioanhliiaaGreatDoorGB2
import Derived.Shelf.Bits.Mul64
set_option maxRecDepth 20000
set_option linter.unusedVariables false
set_option linter.unusedSimpArgs false
namespace Go.Proofs.YtohebioanhliiaaGreatDoor.av
section
open Go.RowKit Go Go.Shelf
def amM:Ren:=⟨fun x=>if x=264 then 139 else x,fun x=>if x=46 then 198 else if x=53 then 232 else x,fun x=>x⟩
theorem U':Lays.n264 Tryz.prog amM where
 mixed:=by kernel_rfl
 f264:=by kernel_rfl
 t46:=by kernel_rfl
 a46:=fun w=>by kernel_rfl
 z46:=fun w=>by kernel_rfl
 v46:=fun w=>by kernel_rfl
 t53:=by kernel_rfl
 a53:=fun w=>by kernel_rfl
 z53:=fun w=>by kernel_rfl
 v53:=fun w=>by kernel_rfl
theorem GO(x y:Nat)(hx:x<18446744073709551616)(hy:y<18446744073709551616)(w:World) :
   Calls Tryz.prog 139 #[.int .u64 x,.int .u64 y] w fun e w'=>e = .returned (.tuple #[.int .u64 ((x*y/18446744073709551616:Nat):Int),.int .u64 ((x*y%18446744073709551616:Nat):Int)])/\w'=w:=Any.bits_Mul64 U' x y hx hy w
theorem jf(x:Nat)(w:World):(callFunc 138 #[.float .f64 x]).run Tryz.prog w = .ok (.value (.int .u64 x)) w:=by
 rw[run_callFunc_extern Tryz.func138 (by kernel_rfl) (by kernel_rfl) (by kernel_rfl) (e:=Extern.MathFloatBits.float64bits) (by kernel_rfl)];rfl
abbrev ck(x y:Nat):Option Ordering:=FloatKind.f64.format.order x y
def vU(x:Nat):Nat:=(x &&& 4503599627370495) |||4503599627370496
theorem yt(x:Nat):vU x<9007199254740992:=by
 have:x &&& 4503599627370495<2 ^ 53:=Nat.lt_of_le_of_lt Nat.and_le_right (by decide);exact Nat.or_lt_two_pow this (by decide)
theorem Va{x:Nat}(hx:x<18446744073709551616):bits .or .u64 (bits .and .u64 (x:Int) 4503599627370495) 4503599627370496=(vU x:Int):=by
 have e1:=bits_and_u64_nat x 4503599627370495 hx (by decide);have l1:x &&& 4503599627370495<18446744073709551616:=Nat.lt_of_le_of_lt Nat.and_le_right (by decide);have e2:=bits_or_u64_nat (x &&& 4503599627370495) 4503599627370496 l1 (by decide);rw[show(4503599627370495:Int)=((4503599627370495:Nat):Int)from rfl,e1];exact e2
theorem Yk{p d:Nat}(CV:53<=d)(AL:d<=63)(hp:p<2 ^ 53*16777217):wrap64 (bits .or .u64 (IntKind.u64.wrap (((p:Nat):Int)/18446744073709551616*2 ^ (64-d))) (((p:Nat):Int)%18446744073709551616/2 ^ d))=((p/2 ^ d:Nat):Int):=by
 have ed:2 ^ (64-d)*2 ^ d=18446744073709551616:=by rw[<- Nat.pow_add,show 64-d+d=64 by omega]
 have pd:0<2 ^ d:=Nat.pow_pos (by omega);have pe:0<2 ^ (64-d):=Nat.pow_pos (by omega);have e1:p/2 ^ d=p/18446744073709551616*2 ^ (64-d)+p%18446744073709551616/2 ^ d:=by
   have:=Nat.div_add_mod p 18446744073709551616;have e2:p=p%18446744073709551616+2 ^ d*(p/18446744073709551616*2 ^ (64-d)):=by
     have:2 ^ d*(p/18446744073709551616*2 ^ (64-d))=p/18446744073709551616*(2 ^ (64-d)*2 ^ d):=by
       rw[Nat.mul_comm,Nat.mul_assoc]
     rw[this,ed];omega
   conv=>lhs;rw[e2]
   rw[Nat.add_mul_div_left _ _ pd];omega
 have l1:p%18446744073709551616/2 ^ d<2 ^ (64-d):=by
   rw[Nat.div_lt_iff_lt_mul pd,ed];exact Nat.mod_lt _ (by decide)
 have l2:p/2 ^ d<16777217:=by
   rw[Nat.div_lt_iff_lt_mul pd];have:2 ^ 53<=2 ^ d:=Nat.pow_le_pow_right (by omega) CV;have:=Nat.mul_le_mul_left 16777217 this;omega
 have c1:((p:Nat):Int)/18446744073709551616*2 ^ (64-d)=((p/18446744073709551616*2 ^ (64-d):Nat):Int):=by
   rw[Int.natCast_mul,Int.natCast_ediv,Int.natCast_pow];rfl
 have c2:((p:Nat):Int)%18446744073709551616/2 ^ d=((p%18446744073709551616/2 ^ d:Nat):Int):=by
   rw[Int.natCast_ediv,Int.natCast_emod,Int.natCast_pow];rfl
 rw[c1,c2];have l3:2 ^ (64-d)<=2 ^ 11:=Nat.pow_le_pow_right (by omega) (by omega);have BB:=Nat.two_pow_add_eq_or_of_lt l1 (p/18446744073709551616);rw[Nat.mul_comm]at BB;generalize p/2 ^ d=Q at *;generalize p/18446744073709551616*2 ^ (64-d)=A at *;generalize p%18446744073709551616/2 ^ d=B at *;have hA:IntKind.u64.wrap (A:Int)=A:=by rw[IntKind.wrap_u64];omega
 rw[hA,bits_or_u64_nat _ _ (by omega) (by omega),<- BB,<- e1];unfold wrap64;omega
theorem Yl{p d:Nat}(CV:64<=d)(hp:p<2 ^ 53*16777217):wrap64 (((p:Nat):Int)/18446744073709551616/2 ^ (d-64))=((p/2 ^ d:Nat):Int):=by
 have e0:18446744073709551616*2 ^ (d-64)=2 ^ d:=by
   rw[show 18446744073709551616=2 ^ 64 from rfl,<- Nat.pow_add,show 64+(d-64)=d by omega]
 have e1:p/18446744073709551616/2 ^ (d-64)=p/2 ^ d:=by rw[Nat.div_div_eq_div_mul,e0]
 have c1:((p:Nat):Int)/18446744073709551616/2 ^ (d-64)=((p/18446744073709551616/2 ^ (d-64):Nat):Int):=by
   rw[Int.natCast_ediv,Int.natCast_ediv,Int.natCast_pow];rfl
 have l:p/18446744073709551616/2 ^ (d-64)<=p/18446744073709551616:=Nat.div_le_self _ _;rw[c1,<- e1];generalize p/18446744073709551616/2 ^ (d-64)=A at *;unfold wrap64;omega
theorem af8{x top:Nat}(h0:top<=16777216):vU x*top<2 ^ 53*16777217:=by
 have:=yt x;have h:=Nat.mul_le_mul (Nat.le_of_lt this) h0;omega
section
variable (x top:Nat)(w:World)(hx:x<18446744073709551616)(h0:top<=16777216)
theorem Vb(x:Nat)(top:Nat)(w:World)(hx:x<18446744073709551616)(h0:top<=16777216)(h1:(ck x x != some .eq)=true):Calls Tryz.prog 87 #[.float .f64 x,.int .i64 top] w fun e w'=>e = .returned (.tuple #[.int .i64 0,.int .i64 2])/\w'=w:=by
 go_enter Tryz.func87,Tryz.ntmps87
 go_wp2
 all_goals first|(go_ret2;exact⟨rfl,rfl⟩)|skip
 all_goals simp_all
theorem Vd(x:Nat)(top:Nat)(w:World)(hx:x<18446744073709551616)(h0:top<=16777216)(h1:(ck x x != some .eq)=false)(h2:(ck x 0==some .lt||ck x 0==some .eq)=true):Calls Tryz.prog 87 #[.float .f64 x,.int .i64 top] w fun e w'=>e = .returned (.tuple #[.int .i64 0,.int .i64 0])/\w'=w:=by
 go_enter Tryz.func87,Tryz.ntmps87
 go_wp2
 all_goals first|(go_ret2;exact⟨rfl,rfl⟩)|skip
 all_goals simp_all
theorem O8(x:Nat)(top:Nat)(w:World)(hx:x<18446744073709551616)(h0:top<=16777216)(h1:(ck x x != some .eq)=false)(h2:(ck x 0==some .lt||ck x 0==some .eq)=false)(h3:(ck x 4607182418800017408==some .gt||ck x 4607182418800017408==some .eq)=true):Calls Tryz.prog 87 #[.float .f64 x,.int .i64 top] w fun e w'=>e = .returned (.tuple #[.int .i64 top,.int .i64 0])/\w'=w:=by
 go_enter Tryz.func87,Tryz.ntmps87
 go_wp2
 all_goals first|(go_ret2;exact⟨rfl,rfl⟩)|skip
 all_goals simp_all
theorem Ve(x:Nat)(top:Nat)(w:World)(hx:x<18446744073709551616)(h0:top<=16777216)(h1:(ck x x != some .eq)=false)(h2:(ck x 0==some .lt||ck x 0==some .eq)=false)(h3:(ck x 4607182418800017408==some .gt||ck x 4607182418800017408==some .eq)=false)(d:Nat)(hd:x/4503599627370496+d=1075)(CV:53<=d)(AL:d<=63) :
   Calls Tryz.prog 87 #[.float .f64 x,.int .i64 top] w fun e w'=>e = .returned (.tuple #[.int .i64 ((vU x*top/2 ^ d:Nat):Int),.int .i64 0])/\w'=w:=by
 have hb:∀w,(callFunc 138 #[.float .f64 x]).run Tryz.prog w = .ok (.value (.int .u64 x)) w:=jf x;have hm:=Va hx;have hw:IntKind.u64.wrap (top:Int)=top:=by rw[IntKind.wrap_u64];omega
 have hf:=yt x;have hqd:1075-(x:Int)/4503599627370496=(d:Int):=by omega
 have n1:¬ (128:Int)<=d:=by omega
 have n2:¬ (64:Int)<=d:=by omega
 have wd:IntKind.u64.wrap (d:Int)=d:=by rw[IntKind.wrap_u64];omega
 have w6:IntKind.u64.wrap (64-(d:Int))=((64-d:Nat):Int):=by rw[IntKind.wrap_u64];omega
 go_enter Tryz.func87,Tryz.ntmps87
 go_wp2_with (go_at_call 139;refine(GO (vU x) top (by omega) (by omega) _).mono ?_;rintro e w1 ⟨rfl,rfl⟩)
 have t:=Yk CV AL (af8 (x:=x) h0);rw[Int.natCast_mul]at t
 all_goals go_ret2
 all_goals refine⟨?_,rfl⟩
 all_goals rw[<- t]
 all_goals rfl
theorem Vg(x:Nat)(top:Nat)(w:World)(hx:x<18446744073709551616)(h0:top<=16777216)(h1:(ck x x != some .eq)=false)(h2:(ck x 0==some .lt||ck x 0==some .eq)=false)(h3:(ck x 4607182418800017408==some .gt||ck x 4607182418800017408==some .eq)=false)(d:Nat)(hd:x/4503599627370496+d=1075)(CV:64<=d)(AL:d<=127) :
   Calls Tryz.prog 87 #[.float .f64 x,.int .i64 top] w fun e w'=>e = .returned (.tuple #[.int .i64 ((vU x*top/2 ^ d:Nat):Int),.int .i64 0])/\w'=w:=by
 have hb:∀w,(callFunc 138 #[.float .f64 x]).run Tryz.prog w = .ok (.value (.int .u64 x)) w:=jf x;have hm:=Va hx;have hw:IntKind.u64.wrap (top:Int)=top:=by rw[IntKind.wrap_u64];omega
 have hf:=yt x;have hqd:1075-(x:Int)/4503599627370496=(d:Int):=by omega
 have n1:¬ (128:Int)<=d:=by omega
 have n2:(64:Int)<=d:=by omega
 have w6:IntKind.u64.wrap ((d:Int)-64)=((d-64:Nat):Int):=by rw[IntKind.wrap_u64];omega
 go_enter Tryz.func87,Tryz.ntmps87
 go_wp2_with (go_at_call 139;refine(GO (vU x) top (by omega) (by omega) _).mono ?_;rintro e w1 ⟨rfl,rfl⟩)
 have t:=Yl CV (af8 (x:=x) h0);rw[Int.natCast_mul]at t
 all_goals go_ret2
 all_goals refine⟨?_,rfl⟩
 all_goals rw[<- t]
 all_goals rfl
theorem O9(x:Nat)(top:Nat)(w:World)(hx:x<18446744073709551616)(h0:top<=16777216)(h1:(ck x x != some .eq)=false)(h2:(ck x 0==some .lt||ck x 0==some .eq)=false)(h3:(ck x 4607182418800017408==some .gt||ck x 4607182418800017408==some .eq)=false)(d:Nat)(hd:x/4503599627370496+d=1075)(CV:128<=d) :
   Calls Tryz.prog 87 #[.float .f64 x,.int .i64 top] w fun e w'=>e = .returned (.tuple #[.int .i64 0,.int .i64 0])/\w'=w:=by
 have hb:∀w,(callFunc 138 #[.float .f64 x]).run Tryz.prog w = .ok (.value (.int .u64 x)) w:=jf x;have hm:=Va hx;have hw:IntKind.u64.wrap (top:Int)=top:=by rw[IntKind.wrap_u64];omega
 have hf:=yt x;have hqd:1075-(x:Int)/4503599627370496=(d:Int):=by omega
 have n1:(128:Int)<=d:=by omega
 go_enter Tryz.func87,Tryz.ntmps87
 go_wp2_with (go_at_call 139;refine(GO (vU x) top (by omega) (by omega) _).mono ?_;rintro e w1 ⟨rfl,rfl⟩)
 all_goals first|(go_ret2;exact⟨rfl,rfl⟩)|skip
end
end
section
open Go.RowKit Go Ieee
def eZ(x:Nat):Datum:=
 if x%9223372036854775808<4503599627370496 then .number (x/9223372036854775808%2==1) (x%9223372036854775808) (-1074)
 else if x%9223372036854775808<9218868437227405312 then .number (x/9223372036854775808%2==1) (4503599627370496+x%9223372036854775808%4503599627370496) (-1074+((x%9223372036854775808/4503599627370496-1:Nat):Int))
 else if x%9223372036854775808=9218868437227405312 then .infinity (x/9223372036854775808%2==1)
 else .nan (x/9223372036854775808%2==1) (x%9223372036854775808-9218868437227405312)
theorem vd(x:Nat):FloatKind.f64.format.read x=eZ x:=by
 show Ieee.Format.read double x=eZ x;have e1:double.signWeight=9223372036854775808:=by decide
 have e2:double.binade=4503599627370496:=by decide
 have e3:double.infRung=9218868437227405312:=by decide
 have e4:double.leastPlace = -1074:=by decide
 simp only[Format.read,e1,e2,e3,e4,eZ]
theorem Cj(x y:Nat):ck x y=(eZ x).order (eZ y):=by
 show(FloatKind.f64.format.read x).order (FloatKind.f64.format.read y)=_;rw[vd,vd]
theorem af9:eZ 0 = .number false 0 (-1074):=by decide
theorem af':eZ 4607182418800017408 = .number false 4503599627370496 (-52):=by decide
theorem Ad(m u:Nat):signed true m u = -((m <<< u:Nat):Int):=rfl
theorem iu(m u:Nat):signed false m u=((m <<< u:Nat):Int):=rfl
theorem CQ{x:Nat}(hx:x<18446744073709551616)(h1:(ck x x != some .eq)=false)(h2:(ck x 0==some .lt||ck x 0==some .eq)=false)(h3:(ck x 4607182418800017408==some .gt||ck x 4607182418800017408==some .eq)=false):x/4503599627370496<=1022:=by
 rw[Cj]at h1;rw[Cj,af9]at h2;rw[Cj,af']at h3;rcases Nat.lt_or_ge x 9223372036854775808 with hs|hs;have es:(x/9223372036854775808%2==1)=false:=by rw[Nat.div_eq_of_lt hs];rfl
 have em:x%9223372036854775808=x:=Nat.mod_eq_of_lt hs;rcases Nat.lt_or_ge 1022 (x/4503599627370496)with hq|hq;exfalso;unfold eZ at h1 h3;rw[es,em]at h1 h3;rw[if_neg (by omega)]at h1 h3;split at h3;rename_i h;simp only[Datum.order,iu]at h3;have eb:min (-1074+((x/4503599627370496-1:Nat):Int)) (-52) = -52:=by omega
 rw[eb,show((-52:Int) - -52).toNat=0 from rfl,Nat.shiftLeft_zero]at h3;generalize hu:(-1074+((x/4503599627370496-1:Nat):Int) - -52).toNat=u at h3;have:4503599627370496<=(4503599627370496+x%4503599627370496) <<< u:=by
   rw[Nat.shiftLeft_eq];have:=Nat.pow_pos (n:=u) (show 0<2 by omega);have:=Nat.le_mul_of_pos_right (4503599627370496+x%4503599627370496) this;omega
 generalize(4503599627370496+x%4503599627370496) <<< u=m at *;rcases Nat.lt_or_ge 4503599627370496 m with hm|hm;have:compare (m:Int) ((4503599627370496:Nat):Int) = .gt:=Int.compare_eq_gt.2 (by omega);rw[this]at h3;exact absurd h3 (by decide);have:compare (m:Int) ((4503599627370496:Nat):Int) = .eq:=Int.compare_eq_eq.2 (by omega);rw[this]at h3;exact absurd h3 (by decide);rename_i h;rw[if_neg h]at h1;split at h3;exact absurd h3 (by decide);rename_i h';rw[if_neg h']at h1;exact absurd h1 (by simp[Datum.order]);exact hq;exfalso;have es:(x/9223372036854775808%2==1)=true:=by
   have:x/9223372036854775808=1:=by omega
   rw[this];rfl
 unfold eZ at h1 h2;rw[es]at h1 h2;have key:∀(m u v:Nat),(some (compare (signed true m u) (signed false 0 v))==some Ordering.lt||some (compare (signed true m u) (signed false 0 v))==some Ordering.eq)=true:=by
   intro m u v;rw[Ad,iu,Nat.zero_shiftLeft];rcases Nat.eq_zero_or_pos (m <<< u)with e|e;rw[e];decide;have:compare (-((m <<< u:Nat):Int)) ((0:Nat):Int) = .lt:=Int.compare_eq_lt.2 (by omega);rw[this];decide
 split at h2;simp only[Datum.order,key]at h2;exact absurd h2 (by decide);rename_i h;rw[if_neg h]at h1;split at h2;simp only[Datum.order,key]at h2;exact absurd h2 (by decide);rename_i h';rw[if_neg h']at h1;split at h2;exact absurd h2 (by decide);rename_i h'';rw[if_neg h'']at h1;exact absurd h1 (by simp[Datum.order])
end
section
open Go.RowKit Go
def gZ(x:Nat):Nat:=x%9223372036854775808
theorem Ic{x:Nat}(hx:x<18446744073709551616):bits .andNot .u64 (x:Int) 9223372036854775808=(gZ x:Int):=by
 have h1:(BitVec.ofInt 64 (x:Int)).toNat=x:=by
   rw[BitVec.ofInt_natCast,BitVec.toNat_ofNat];exact Nat.mod_eq_of_lt (by omega)
 show IntKind.u64.wrap ((BitVec.ofInt 64 (x:Int) &&& ~~~ BitVec.ofInt 64 9223372036854775808).toNat:Int)=_;have h2:(~~~ BitVec.ofInt 64 9223372036854775808).toNat=2 ^ 63-1:=by decide
 rw[BitVec.toNat_and,h1,h2,Nat.and_two_pow_sub_one_eq_mod,IntKind.wrap_u64];unfold gZ;omega
theorem q6(x:Nat)(w:World):(callFunc 140 #[.int .u64 x]).run Tryz.prog w = .ok (.value (.float .f64 x)) w:=by
 rw[run_callFunc_extern Tryz.func140 (by kernel_rfl) (by kernel_rfl) (by kernel_rfl) (e:=Extern.MathFloatBits.float64frombits) (by kernel_rfl)];rfl
theorem xZ(x:Nat)(w:World)(hx:x<18446744073709551616):Calls Tryz.prog 192 #[.float .f64 x] w fun e w'=>e = .returned (.float .f64 (gZ x))/\w'=w:=by
 have hb:∀w,(callFunc 138 #[.float .f64 x]).run Tryz.prog w = .ok (.value (.int .u64 x)) w:=jf x;have hf:∀w,(callFunc 140 #[.int .u64 (gZ x:Int)]).run Tryz.prog w = .ok (.value (.float .f64 (gZ x))) w:=q6 (gZ x);have ha:=Ic hx;go_enter Tryz.func192,Tryz.ntmps192
 go_wp2
 all_goals first|(go_ret;exact⟨rfl,rfl⟩)|skip
theorem q7(x:Nat)(w:World):Calls Tryz.prog 258 #[.float .f64 x] w fun e w'=>e = .returned (.bool (ck x x != some .eq))/\w'=w:=by
 go_enter Tryz.func258,Tryz.ntmps258
 go_wp2
 all_goals first|(go_ret;exact⟨rfl,rfl⟩)|skip
theorem jC(x:Nat)(w:World)(hx:x<18446744073709551616):Calls Tryz.prog 189 #[.float .f64 x,.int .i64 0] w fun e w'=>e = .returned (.bool (ck (gZ x) 9218868437227405311==some .gt))/\w'=w:=by
 go_enter Tryz.func189,Tryz.ntmps189
 go_wp2_with (go_at_call 192;refine(xZ x _ hx).mono ?_;rintro e w1 ⟨rfl,rfl⟩)
 all_goals first|(go_ret;exact⟨rfl,rfl⟩)|skip
theorem Xa(w:World):Calls Tryz.prog 261 #[.int .i64 (-1)] w fun e w'=>e = .returned (.float .f64 18442240474082181120)/\w'=w:=by
 have hf:∀w,(callFunc 140 #[.int .u64 18442240474082181120]).run Tryz.prog w = .ok (.value (.float .f64 18442240474082181120)) w:=q6 18442240474082181120;go_enter Tryz.func261,Tryz.ntmps261
 go_wp2
 all_goals first|(go_ret;exact⟨rfl,rfl⟩)|skip
theorem Gb(w:World):Calls Tryz.prog 261 #[.int .i64 1] w fun e w'=>e = .returned (.float .f64 9218868437227405312)/\w'=w:=by
 have hf:∀w,(callFunc 140 #[.int .u64 9218868437227405312]).run Tryz.prog w = .ok (.value (.float .f64 9218868437227405312)) w:=q6 9218868437227405312;go_enter Tryz.func261,Tryz.ntmps261
 go_wp2
 all_goals first|(go_ret;exact⟨rfl,rfl⟩)|skip
end
section
open Go.RowKit Go
def DF(x:Nat):Nat:=x/9223372036854775808*9223372036854775808
theorem RB{x:Nat}(hx:x<18446744073709551616):bits .or .u64 (bits .andNot .u64 0 9223372036854775808) (bits .and .u64 (x:Int) 9223372036854775808)=(DF x:Int):=by
 have e0:bits .andNot .u64 0 9223372036854775808=((0:Nat):Int):=by decide
 have e1:=bits_and_u64_nat x 9223372036854775808 hx (by decide);rw[show(9223372036854775808:Int)=((9223372036854775808:Nat):Int)from rfl]at e0 ⊢;rw[e0,e1];have l1:x &&& 9223372036854775808<18446744073709551616:=Nat.lt_of_le_of_lt Nat.and_le_right (by decide);rw[bits_or_u64_nat 0 _ (by decide) l1,Nat.zero_or];have:x &&& 2 ^ 63=DF x:=by
   have hb:x.testBit 63=decide (x/2 ^ 63%2=1):=Nat.testBit_eq_decide_div_mod_eq;refine Nat.eq_of_testBit_eq fun i=>?_;rw[Nat.testBit_and,Nat.testBit_two_pow];unfold DF;by_cases hi:63=i;subst hi;rw[hb];rcases Nat.lt_or_ge x 9223372036854775808 with h|h;rw[show x/2 ^ 63=0 from Nat.div_eq_of_lt h];decide;have e:x/9223372036854775808=1:=by omega
   rw[show x/2 ^ 63=1 from e];decide;have e:x/9223372036854775808=0\/x/9223372036854775808=1:=by omega
   rw[decide_eq_false hi,Bool.and_false];rcases e with e|e;rw[e];simp;rw[e,show 1*9223372036854775808=2 ^ 63 from rfl,Nat.testBit_two_pow,decide_eq_false hi]
 exact congrArg _ this
theorem Gc(x:Nat)(w:World)(hx:x<18446744073709551616):Calls Tryz.prog 260 #[.float .f64 0,.float .f64 x] w fun e w'=>e = .returned (.float .f64 (DF x))/\w'=w:=by
 have hb:∀w,(callFunc 138 #[.float .f64 x]).run Tryz.prog w = .ok (.value (.int .u64 x)) w:=jf x;have hz:∀w,(callFunc 138 #[.float .f64 0]).run Tryz.prog w = .ok (.value (.int .u64 0)) w:=jf 0;have hf:∀w,(callFunc 140 #[.int .u64 (DF x:Int)]).run Tryz.prog w = .ok (.value (.float .f64 (DF x))) w:=q6 (DF x);have ha:=RB hx;go_enter Tryz.func260,Tryz.ntmps260
 go_wp2
 all_goals first|(go_ret;exact⟨rfl,rfl⟩)|skip
theorem AE(x:Nat)(w:World)(hx:x<18446744073709551616)(h:(ck (gZ x) 4503599627370496==some .lt)=false):Calls Tryz.prog 259 #[.float .f64 x] w fun e w'=>e = .returned (.tuple #[.float .f64 x,.int .i64 0])/\w'=w:=by
 go_enter Tryz.func259,Tryz.ntmps259
 go_wp2_with (go_at_call 192;refine(xZ x _ hx).mono ?_;rintro e w1 ⟨rfl,rfl⟩)
 all_goals first|(go_ret2;exact⟨rfl,rfl⟩)|skip
 all_goals simp_all
theorem AF(x r:Nat)(w:World)(hx:x<18446744073709551616)(h:(ck (gZ x) 4503599627370496==some .lt)=true)(hr:FloatKind.f64.format.mul x 4841369599423283200=some r):Calls Tryz.prog 259 #[.float .f64 x] w fun e w'=>e = .returned (.tuple #[.float .f64 r,.int .i64 (-52)])/\w'=w:=by
 have hm:∀w,(binOp .mul 180 (.float .f64 x) (.float .f64 4841369599423283200)).run Tryz.prog w = .ok (.float .f64 r) w:=fun w=>run_float_arith w .mul 180 .f64 x 4841369599423283200 r hr;go_enter Tryz.func259,Tryz.ntmps259
 go_wp2_with (go_at_call 192;refine(xZ x _ hx).mono ?_;rintro e w1 ⟨rfl,rfl⟩)
 all_goals first|(go_ret2;exact⟨rfl,rfl⟩)|skip
 all_goals simp_all
end
section
open Go.RowKit Go
section
variable (x:Nat)(n:Int)(w:World)(hx:x<18446744073709551616)(iI:0<=n)(ga:n<=32)
theorem Ki(x:Nat)(n:Int)(w:World)(hx:x<18446744073709551616)(iI:0<=n)(ga:n<=32)(h:(ck x 0==some .eq)=true):Calls Tryz.prog 231 #[.float .f64 x,.int .i64 n] w fun e w'=>e = .returned (.float .f64 x)/\w'=w:=by
 go_enter Tryz.func231,Tryz.ntmps231
 go_wp2
 all_goals first|(go_ret;exact⟨rfl,rfl⟩)|skip
 all_goals simp_all
variable (y q:Nat)(e:Int)(hy:y<18446744073709551616)(he:e=0\/e = -52)(Za:q<=2047)(hq:bits .and .i64 ((y:Int)/4503599627370496) 2047=(q:Int))(hN:∀w,Calls Tryz.prog 259 #[.float .f64 x] w fun z w'=>z = .returned (.tuple #[.float .f64 y,.int .i64 e])/\w'=w)
 (h0:(ck x 0==some .eq)=false) (h1:(ck (gZ x) 9218868437227405311==some .gt)=false) (h2:(ck x x != some .eq)=false)
theorem Ox(x:Nat)(n:Int)(w:World)(hx:x<18446744073709551616)(iI:0<=n)(ga:n<=32)(y:Nat)(q:Nat)(e:Int)(hy:y<18446744073709551616)(he:e=0\/e = -52)(Za:q<=2047)(hq:bits .and .i64 ((y:Int)/4503599627370496) 2047=(q:Int))(hN:∀w,Calls Tryz.prog 259 #[.float .f64 x] w fun z w'=>z = .returned (.tuple #[.float .f64 y,.int .i64 e])/\w'=w)(h0:(ck x 0==some .eq)=false)(h1:(ck (gZ x) 9218868437227405311==some .gt)=false)(h2:(ck x x != some .eq)=false)(hE:n+e+(q-1023) < -1075):Calls Tryz.prog 231 #[.float .f64 x,.int .i64 n] w fun z w'=>z = .returned (.float .f64 (DF y))/\w'=w:=by
 have hb:∀w,(callFunc 138 #[.float .f64 y]).run Tryz.prog w = .ok (.value (.int .u64 y)) w:=jf y;go_enter Tryz.func231,Tryz.ntmps231
 go_wp2_with (first|(go_at_call 189;refine(jC x _ hx).mono ?_;rintro z w1 ⟨rfl,rfl⟩)|(go_at_call 258;refine(q7 x _).mono ?_;rintro z w1 ⟨rfl,rfl⟩)|(go_at_call 259;refine(hN _).mono ?_;rintro z w1 ⟨rfl,rfl⟩)|(go_at_call 260;refine(Gc y _ hy).mono ?_;rintro z w1 ⟨rfl,rfl⟩))
 all_goals first|(go_ret;exact⟨rfl,rfl⟩)|skip
theorem Oy(x:Nat)(n:Int)(w:World)(hx:x<18446744073709551616)(iI:0<=n)(ga:n<=32)(y:Nat)(q:Nat)(e:Int)(hy:y<18446744073709551616)(he:e=0\/e = -52)(Za:q<=2047)(hq:bits .and .i64 ((y:Int)/4503599627370496) 2047=(q:Int))(hN:∀w,Calls Tryz.prog 259 #[.float .f64 x] w fun z w'=>z = .returned (.tuple #[.float .f64 y,.int .i64 e])/\w'=w)(h0:(ck x 0==some .eq)=false)(h1:(ck (gZ x) 9218868437227405311==some .gt)=false)(h2:(ck x x != some .eq)=false)(hE:1023<n+e+(q-1023))(hs:(ck y 0==some .lt)=true):Calls Tryz.prog 231 #[.float .f64 x,.int .i64 n] w fun z w'=>z = .returned (.float .f64 18442240474082181120)/\w'=w:=by
 have hb:∀w,(callFunc 138 #[.float .f64 y]).run Tryz.prog w = .ok (.value (.int .u64 y)) w:=jf y;go_enter Tryz.func231,Tryz.ntmps231
 go_wp2_with (first|(go_at_call 189;refine(jC x _ hx).mono ?_;rintro z w1 ⟨rfl,rfl⟩)|(go_at_call 258;refine(q7 x _).mono ?_;rintro z w1 ⟨rfl,rfl⟩)|(go_at_call 259;refine(hN _).mono ?_;rintro z w1 ⟨rfl,rfl⟩)|(go_at_call 261;refine(Xa _).mono ?_;rintro z w1 ⟨rfl,rfl⟩))
 all_goals first|(go_ret;exact⟨rfl,rfl⟩)|skip
theorem Oz(x:Nat)(n:Int)(w:World)(hx:x<18446744073709551616)(iI:0<=n)(ga:n<=32)(y:Nat)(q:Nat)(e:Int)(hy:y<18446744073709551616)(he:e=0\/e = -52)(Za:q<=2047)(hq:bits .and .i64 ((y:Int)/4503599627370496) 2047=(q:Int))(hN:∀w,Calls Tryz.prog 259 #[.float .f64 x] w fun z w'=>z = .returned (.tuple #[.float .f64 y,.int .i64 e])/\w'=w)(h0:(ck x 0==some .eq)=false)(h1:(ck (gZ x) 9218868437227405311==some .gt)=false)(h2:(ck x x != some .eq)=false)(hE:1023<n+e+(q-1023))(hs:(ck y 0==some .lt)=false):Calls Tryz.prog 231 #[.float .f64 x,.int .i64 n] w fun z w'=>z = .returned (.float .f64 9218868437227405312)/\w'=w:=by
 have hb:∀w,(callFunc 138 #[.float .f64 y]).run Tryz.prog w = .ok (.value (.int .u64 y)) w:=jf y;go_enter Tryz.func231,Tryz.ntmps231
 go_wp2_with (first|(go_at_call 189;refine(jC x _ hx).mono ?_;rintro z w1 ⟨rfl,rfl⟩)|(go_at_call 258;refine(q7 x _).mono ?_;rintro z w1 ⟨rfl,rfl⟩)|(go_at_call 259;refine(hN _).mono ?_;rintro z w1 ⟨rfl,rfl⟩)|(go_at_call 261;refine(Gb _).mono ?_;rintro z w1 ⟨rfl,rfl⟩))
 all_goals first|(go_ret;exact⟨rfl,rfl⟩)|skip
theorem OA(x:Nat)(n:Int)(w:World)(hx:x<18446744073709551616)(iI:0<=n)(ga:n<=32)(y:Nat)(q:Nat)(e:Int)(hy:y<18446744073709551616)(he:e=0\/e = -52)(Za:q<=2047)(hq:bits .and .i64 ((y:Int)/4503599627370496) 2047=(q:Int))(hN:∀w,Calls Tryz.prog 259 #[.float .f64 x] w fun z w'=>z = .returned (.tuple #[.float .f64 y,.int .i64 e])/\w'=w)(h0:(ck x 0==some .eq)=false)(h1:(ck (gZ x) 9218868437227405311==some .gt)=false)(h2:(ck x x != some .eq)=false)(k z r:Nat)(hE:n+e+(q-1023)+1023=k)(Vw:1<=k)(zO:k<=2046)(hz:bits .or .u64 (bits .andNot .u64 (y:Int) 9218868437227405312) ((k:Int)*4503599627370496)=(z:Int))(hr:FloatKind.f64.format.mul 4607182418800017408 z=some r) :
   Calls Tryz.prog 231 #[.float .f64 x,.int .i64 n] w fun z w'=>z = .returned (.float .f64 r)/\w'=w:=by
 have hb:∀w,(callFunc 138 #[.float .f64 y]).run Tryz.prog w = .ok (.value (.int .u64 y)) w:=jf y;have hf:∀w,(callFunc 140 #[.int .u64 (z:Int)]).run Tryz.prog w = .ok (.value (.float .f64 z)) w:=q6 z;have hm:∀w,(binOp .mul 180 (.float .f64 4607182418800017408) (.float .f64 z)).run Tryz.prog w = .ok (.float .f64 r) w:=fun w=>run_float_arith w .mul 180 .f64 4607182418800017408 z r hr;have hw:IntKind.u64.wrap (n+e+(q-1023)+1023)=(k:Int):=by rw[hE,IntKind.wrap_u64];omega
 have hw2:IntKind.u64.wrap ((k:Int)*4503599627370496)=(k:Int)*4503599627370496:=by rw[IntKind.wrap_u64];omega
 go_enter Tryz.func231,Tryz.ntmps231
 go_wp2_with (first|(go_at_call 189;refine(jC x _ hx).mono ?_;rintro z w1 ⟨rfl,rfl⟩)|(go_at_call 258;refine(q7 x _).mono ?_;rintro z w1 ⟨rfl,rfl⟩)|(go_at_call 259;refine(hN _).mono ?_;rintro z w1 ⟨rfl,rfl⟩)|(go_at_call 261;refine(Gb _).mono ?_;rintro z w1 ⟨rfl,rfl⟩))
 all_goals first|(go_ret;exact⟨rfl,rfl⟩)|skip
theorem OB(x:Nat)(n:Int)(w:World)(hx:x<18446744073709551616)(iI:0<=n)(ga:n<=32)(y:Nat)(q:Nat)(e:Int)(hy:y<18446744073709551616)(he:e=0\/e = -52)(Za:q<=2047)(hq:bits .and .i64 ((y:Int)/4503599627370496) 2047=(q:Int))(hN:∀w,Calls Tryz.prog 259 #[.float .f64 x] w fun z w'=>z = .returned (.tuple #[.float .f64 y,.int .i64 e])/\w'=w)(h0:(ck x 0==some .eq)=false)(h1:(ck (gZ x) 9218868437227405311==some .gt)=false)(h2:(ck x x != some .eq)=false)(k z r:Nat)(hE:n+e+(q-1023)+53+1023=k)(Vw:1<=k)(zO:k<=53)(hz:bits .or .u64 (bits .andNot .u64 (y:Int) 9218868437227405312) ((k:Int)*4503599627370496)=(z:Int))(hr:FloatKind.f64.format.mul 4368491638549381120 z=some r) :
   Calls Tryz.prog 231 #[.float .f64 x,.int .i64 n] w fun z w'=>z = .returned (.float .f64 r)/\w'=w:=by
 have hb:∀w,(callFunc 138 #[.float .f64 y]).run Tryz.prog w = .ok (.value (.int .u64 y)) w:=jf y;have hf:∀w,(callFunc 140 #[.int .u64 (z:Int)]).run Tryz.prog w = .ok (.value (.float .f64 z)) w:=q6 z;have hm:∀w,(binOp .mul 180 (.float .f64 4368491638549381120) (.float .f64 z)).run Tryz.prog w = .ok (.float .f64 r) w:=fun w=>run_float_arith w .mul 180 .f64 4368491638549381120 z r hr;have hw:IntKind.u64.wrap (n+e+(q-1023)+53+1023)=(k:Int):=by rw[hE,IntKind.wrap_u64];omega
 have hw2:IntKind.u64.wrap ((k:Int)*4503599627370496)=(k:Int)*4503599627370496:=by rw[IntKind.wrap_u64];omega
 go_enter Tryz.func231,Tryz.ntmps231
 go_wp2_with (first|(go_at_call 189;refine(jC x _ hx).mono ?_;rintro z w1 ⟨rfl,rfl⟩)|(go_at_call 258;refine(q7 x _).mono ?_;rintro z w1 ⟨rfl,rfl⟩)|(go_at_call 259;refine(hN _).mono ?_;rintro z w1 ⟨rfl,rfl⟩)|(go_at_call 261;refine(Gb _).mono ?_;rintro z w1 ⟨rfl,rfl⟩))
 all_goals first|(go_ret;exact⟨rfl,rfl⟩)|skip
end
end
section
open Go.RowKit Go
section
variable (x:Nat)(n m:Int)(w:World)(hx:x<18446744073709551616)(iI:0<=n)(ga:n<=32)(uO:0<=m)(xj:m<=1099511627776)
theorem OC(x:Nat)(n:Int)(m:Int)(w:World)(hx:x<18446744073709551616)(iI:0<=n)(ga:n<=32)(uO:0<=m)(xj:m<=1099511627776)(h:(ck x x != some .eq)=true):Calls Tryz.prog 146 #[.float .f64 x,.int .i64 n,.int .i64 m] w fun e w'=>e = .returned (.tuple #[.int .i64 0,.int .i64 2])/\w'=w:=by
 go_enter Tryz.func146,Tryz.ntmps146
 go_wp2_with (go_at_call 189;refine(jC x _ hx).mono ?_;rintro z w1 ⟨rfl,rfl⟩)
 all_goals first|(go_ret2;exact⟨rfl,rfl⟩)|skip
 all_goals simp_all
theorem OD(x:Nat)(n:Int)(m:Int)(w:World)(hx:x<18446744073709551616)(iI:0<=n)(ga:n<=32)(uO:0<=m)(xj:m<=1099511627776)(h:(ck x x != some .eq)=false)(h1:(ck (gZ x) 9218868437227405311==some .gt)=true):Calls Tryz.prog 146 #[.float .f64 x,.int .i64 n,.int .i64 m] w fun e w'=>e = .returned (.tuple #[.int .i64 0,.int .i64 3])/\w'=w:=by
 go_enter Tryz.func146,Tryz.ntmps146
 go_wp2_with (go_at_call 189;refine(jC x _ hx).mono ?_;rintro z w1 ⟨rfl,rfl⟩)
 all_goals first|(go_ret2;exact⟨rfl,rfl⟩)|skip
 all_goals simp_all
variable (l nr f:Nat)(hl:l<18446744073709551616)(rn:nr<18446744073709551616)
 (h:(ck x x != some .eq)=false) (h1:(ck (gZ x) 9218868437227405311==some .gt)=false)
 (hL:∀w,Calls Tryz.prog 231 #[.float .f64 x,.int .i64 n] w fun z w'=>z = .returned (.float .f64 l)/\w'=w)
 (hR:∀w,(callFunc 190 #[.float .f64 l]).run Tryz.prog w = .ok (.value (.float .f64 nr)) w)
theorem Ey(x:Nat)(n:Int)(m:Int)(hx:x<18446744073709551616)(iI:0<=n)(ga:n<=32)(uO:0<=m)(xj:m<=1099511627776)(l:Nat)(nr:Nat)(hl:l<18446744073709551616)(rn:nr<18446744073709551616)(h:(ck x x != some .eq)=false)(h1:(ck (gZ x) 9218868437227405311==some .gt)=false)(hL:∀w,Calls Tryz.prog 231 #[.float .f64 x,.int .i64 n] w fun z w'=>z = .returned (.float .f64 l)/\w'=w)(hR:∀w,(callFunc 190 #[.float .f64 l]).run Tryz.prog w = .ok (.value (.float .f64 nr)) w)(w:World):Calls Tryz.prog 191 #[.float .f64 x,.int .i64 n] w fun z w'=>z = .returned (.float .f64 l)/\w'=w:=by
 go_enter Tryz.func191,Tryz.ntmps191
 go_wp2_with (go_at_call 231;refine(hL _).mono ?_;rintro z w1 ⟨rfl,rfl⟩)
 all_goals first|(go_ret;exact⟨rfl,rfl⟩)|skip
theorem Ie(x:Nat)(n:Int)(m:Int)(w:World)(hx:x<18446744073709551616)(iI:0<=n)(ga:n<=32)(uO:0<=m)(xj:m<=1099511627776)(l:Nat)(nr:Nat)(hl:l<18446744073709551616)(rn:nr<18446744073709551616)(h:(ck x x != some .eq)=false)(h1:(ck (gZ x) 9218868437227405311==some .gt)=false)(hL:∀w,Calls Tryz.prog 231 #[.float .f64 x,.int .i64 n] w fun z w'=>z = .returned (.float .f64 l)/\w'=w)(hR:∀w,(callFunc 190 #[.float .f64 l]).run Tryz.prog w = .ok (.value (.float .f64 nr)) w)(h4:(ck (gZ nr) (floatOfInt .f64 m)==some .gt)=true):Calls Tryz.prog 146 #[.float .f64 x,.int .i64 n,.int .i64 m] w fun e w'=>e = .returned (.tuple #[.int .i64 0,.int .i64 4])/\w'=w:=by
 go_enter Tryz.func146,Tryz.ntmps146
 go_wp2_with (first|(go_at_call 189;refine(jC x _ hx).mono ?_;rintro z w1 ⟨rfl,rfl⟩)|(go_at_call 191;refine(Ey x n m hx iI ga uO xj l nr hl rn h h1 hL hR _).mono ?_;rintro z w1 ⟨rfl,rfl⟩)|(go_at_call 192;refine(xZ nr _ rn).mono ?_;rintro z w1 ⟨rfl,rfl⟩))
 all_goals first|(go_ret2;exact⟨rfl,rfl⟩)|skip
theorem RC(x:Nat)(n:Int)(m:Int)(w:World)(hx:x<18446744073709551616)(iI:0<=n)(ga:n<=32)(uO:0<=m)(xj:m<=1099511627776)(l:Nat)(nr:Nat)(hl:l<18446744073709551616)(rn:nr<18446744073709551616)(h:(ck x x != some .eq)=false)(h1:(ck (gZ x) 9218868437227405311==some .gt)=false)(hL:∀w,Calls Tryz.prog 231 #[.float .f64 x,.int .i64 n] w fun z w'=>z = .returned (.float .f64 l)/\w'=w)(hR:∀w,(callFunc 190 #[.float .f64 l]).run Tryz.prog w = .ok (.value (.float .f64 nr)) w)(v:Int)(h4:(ck (gZ nr) (floatOfInt .f64 m)==some .gt)=false)(hv:floatToIntVal .f64 nr .i64=some v):Calls Tryz.prog 146 #[.float .f64 x,.int .i64 n,.int .i64 m] w fun e w'=>e = .returned (.tuple #[.int .i64 v,.int .i64 0])/\w'=w:=by
 have hc:∀w,(convert 180 3 (.float .f64 nr)).run Tryz.prog w = .ok (.int .i64 v) w:=fun w=>run_convert_float_int w 180 3 .f64 .i64 nr v (by kernel_rfl) (by kernel_rfl) hv;go_enter Tryz.func146,Tryz.ntmps146
 go_wp2_with (first|(go_at_call 189;refine(jC x _ hx).mono ?_;rintro z w1 ⟨rfl,rfl⟩)|(go_at_call 191;refine(Ey x n m hx iI ga uO xj l nr hl rn h h1 hL hR _).mono ?_;rintro z w1 ⟨rfl,rfl⟩)|(go_at_call 192;refine(xZ nr _ rn).mono ?_;rintro z w1 ⟨rfl,rfl⟩))
 all_goals first|(go_ret2;exact⟨rfl,rfl⟩)|skip
end
end
section
open Go.RowKit Go Ieee
variable{x l:Nat}
def pK(x:Nat):Prop:=x<18446744073709551616/\x%9223372036854775808<=9218868437227405312
theorem Gd(s:Bool){r:Nat}(h:r<=9218868437227405312):pK (double.word s r):=by
 have e1:double.signWeight=9223372036854775808:=by decide
 unfold pK Format.word;rw[e1];cases s;simp only[Bool.false_eq_true,if_false];omega;simp only[if_true];omega
theorem Kj(s:Bool)(m:Nat)(p:Int):pK (double.nearest s m p):=by
 have e3:double.infRung=9218868437227405312:=by decide
 unfold Format.nearest;split;exact Gd s (by omega);exact Gd s (by rw[e3];exact Nat.min_le_right _ _)
def isNum:Datum->Bool
 |.nan .. =>false
 |_=>true
theorem Ig{d:Datum}(h:isNum d=true):pK (double.write d):=by
 have e3:double.infRung=9218868437227405312:=by decide
 cases d with
 |number s m p=>exact Kj s m p
 |infinity s=>exact Gd s (by rw[e3];exact Nat.le_refl _)
 |nan s t=>cases h
theorem Ci(h:pK x):isNum (eZ x)=true:=by
 obtain⟨_,h⟩:=h;unfold eZ;split;rfl;split;rfl;split;rfl;omega
theorem Mf(hx:x<18446744073709551616)(h:(ck x x != some .eq)=false):pK x:=by
 refine⟨hx,?_⟩;rcases Nat.lt_or_ge 9218868437227405312 (x%9223372036854775808)with h1|h1;exfalso;rw[Cj]at h;unfold eZ at h;rw[if_neg (by omega),if_neg (by omega),if_neg (by omega)]at h;exact absurd h (by simp[Datum.order]);exact h1
def pL:Datum->Bool
 |.number .. =>true
 |_=>false
theorem Ih{a b:Datum}(ha:pL a=true)(hb:pL b=true):∃d,a.product b=some d/\isNum d=true:=by
 cases a<;>cases b<;>simp[pL]at ha hb;exact⟨_,rfl,rfl⟩
theorem Kk{y:Nat}(hx:pL (eZ x)=true)(hy:pL (eZ y)=true):∃r,FloatKind.f64.format.mul x y=some r/\pK r:=by
 obtain⟨d,h1,h2⟩:=Ih hx hy;refine⟨double.write d,?_,Ig h2⟩;show((FloatKind.f64.format.read x).product (FloatKind.f64.format.read y)).map _=_;rw[vd,vd,h1];rfl
theorem RD(h:x%9223372036854775808<9218868437227405312):pL (eZ x)=true:=by
 unfold eZ;split;rfl;rfl
def uy(l:Nat):Nat:=double.write ((eZ l).integral .even)
theorem Ii(h:pK l):pK (uy l):=by
 have h1:=Ci h;refine Ig ?_;generalize eZ l=d at *;cases d with
 |number s m p=>rfl
 |infinity s=>rfl
 |nan s t=>cases h1
theorem Ge(h:pK l):Extern.MathFloor.toIntegral "math.RoundToEven" .even #[.float .f64 l]=pure (.float .f64 (uy l)):=by
 have h1:=Ci h;have h2:FloatKind.f64.decode l=eZ l:=vd l
 conv=>lhs;unfold Extern.MathFloor.toIntegral;whnf
 rw[h2];unfold uy;generalize eZ l=d at *;cases d with
 |number s m p=>rfl
 |infinity s=>rfl
 |nan s t=>cases h1
theorem OE(h:pK l)(w:World):(callFunc 190 #[.float .f64 l]).run PP w = .ok (.value (.float .f64 (uy l))) w:=by
 rw[run_callFunc_extern Tryz.func190 (by kernel_rfl) (by kernel_rfl) (by kernel_rfl) (e:=Extern.MathFloor.toIntegral "math.RoundToEven" .even) (by kernel_rfl),Ge h];rfl
end
section
open Go.RowKit Go Ieee
variable{y x k:Nat}
def kf(y k:Nat):Nat:=y/9223372036854775808*9223372036854775808+y%4503599627370496+k*4503599627370496
theorem Gg(hy:y<18446744073709551616):bits .andNot .u64 (y:Int) 9218868437227405312=(kf y 0:Int):=by
 have h1:(BitVec.ofInt 64 (y:Int)).toNat=y:=by
   rw[BitVec.ofInt_natCast,BitVec.toNat_ofNat];exact Nat.mod_eq_of_lt (by omega)
 show IntKind.u64.wrap ((BitVec.ofInt 64 (y:Int) &&& ~~~ BitVec.ofInt 64 9218868437227405312).toNat:Int)=_;have h2:(~~~ BitVec.ofInt 64 9218868437227405312).toNat=9227875636482146303:=by decide
 have h3:y &&& 9227875636482146303=kf y 0:=by
   refine Nat.eq_of_testBit_eq fun i=>?_;have e1:kf y 0=2 ^ 52*(2048*(y/9223372036854775808))+y%2 ^ 52:=by unfold kf;omega
   have e2:(9227875636482146303:Nat)=2 ^ 52*(2 ^ 11*1+0)+(2 ^ 52-1):=by decide
   have e3:2048*(y/9223372036854775808)=2 ^ 11*(y/9223372036854775808)+0:=by omega
   rw[e1,e2,Nat.testBit_and,Nat.testBit_two_pow_mul_add _ (by omega),Nat.testBit_two_pow_mul_add _ (Nat.mod_lt _ (by decide)),Nat.testBit_mod_two_pow,Nat.testBit_two_pow_sub_one,e3,Nat.testBit_two_pow_mul_add _ (by omega),Nat.testBit_two_pow_mul_add _ (by omega)];by_cases hi:i<52;simp[hi];simp only[hi,if_false];by_cases hj:i-52<11;simp[hj];simp only[hj,if_false];have:y/9223372036854775808<2:=by omega
   have e4:y.testBit i=(y/9223372036854775808).testBit (i-52-11):=by
     rw[show(9223372036854775808:Nat)=2 ^ 63 from rfl,Nat.testBit_div_two_pow];congr 1;omega
   rw[e4];have hv:y/9223372036854775808=0\/y/9223372036854775808=1:=by omega
   rcases hv with e|e<;>rw[e]<;>simp
 rw[BitVec.toNat_and,h1,h2,h3,IntKind.wrap_u64];unfold kf;omega
theorem Ij(hy:y<18446744073709551616)(hk:k<2048):bits .or .u64 (bits .andNot .u64 (y:Int) 9218868437227405312) ((k:Int)*4503599627370496)=(kf y k:Int):=by
 rw[Gg hy,show((k:Int)*4503599627370496)=((k*4503599627370496:Nat):Int)by omega,bits_or_u64_nat _ _ (by unfold kf;omega) (by omega)];congr 1;refine Nat.eq_of_testBit_eq fun i=>?_;have e1:kf y k=2 ^ 52*(2 ^ 11*(y/9223372036854775808)+k)+y%2 ^ 52:=by unfold kf;omega
 have e0:kf y 0=2 ^ 52*(2 ^ 11*(y/9223372036854775808)+0)+y%2 ^ 52:=by unfold kf;omega
 have e2:k*4503599627370496=2 ^ 52*k+0:=by omega
 have hm:y%2 ^ 52<2 ^ 52:=Nat.mod_lt _ (by decide);have t0:=Nat.testBit_two_pow_mul_add (2 ^ 11*(y/9223372036854775808)+0) hm i;have t1:=Nat.testBit_two_pow_mul_add (2 ^ 11*(y/9223372036854775808)+k) hm i;have t2:=Nat.testBit_two_pow_mul_add k (show 0<2 ^ 52 by decide) i;rw[e1,e0,e2,Nat.testBit_or,t0,t1,t2];by_cases hi:i<52;simp[hi];rw[if_neg hi,if_neg hi,if_neg hi];have s0:=Nat.testBit_two_pow_mul_add (y/9223372036854775808) (show 0<2 ^ 11 by decide) (i-52);have s1:=Nat.testBit_two_pow_mul_add (y/9223372036854775808) (show k<2 ^ 11 by omega) (i-52);rw[s0,s1];by_cases hj:i-52<11;simp[hj];have:k.testBit (i-52)=false:=Nat.testBit_lt_two_pow (Nat.lt_of_lt_of_le (show k<2 ^ 11 by omega) (Nat.pow_le_pow_right (by omega) (by omega)));simp[hj,this]
theorem Ez(hk:k<=2046):pL (eZ (kf y k))=true:=RD (by unfold kf;omega)
theorem RE(hy:y<18446744073709551616):bits .and .i64 ((y:Int)/4503599627370496) 2047=((y/4503599627370496%2048:Nat):Int):=by
 have ai7:(BitVec.ofInt 64 2047).toNat=2 ^ 11-1:=by decide
 have key:(BitVec.ofInt 64 ((y:Int)/4503599627370496) &&& BitVec.ofInt 64 2047).toNat=(((y:Int)/4503599627370496)%((2 ^ 64:Nat):Int)).toNat%2 ^ 11:=by
   rw[BitVec.toNat_and,BitVec.toNat_ofInt,ai7,Nat.and_two_pow_sub_one_eq_mod]
 show IntKind.i64.wrap ((BitVec.ofInt 64 ((y:Int)/4503599627370496) &&& BitVec.ofInt 64 2047).toNat:Nat)=_;rw[key,IntKind.wrap_i64];omega
def mulN(x y:Nat):Nat:=(FloatKind.f64.format.mul x y).getD 0
theorem Gh(hx:pL (eZ x)=true)(hy:pL (eZ y)=true):FloatKind.f64.format.mul x y=some (mulN x y)/\pK (mulN x y):=by
 obtain⟨r,h1,h2⟩:=Kk hx hy;unfold mulN;rw[h1];exact⟨rfl,h2⟩
theorem Xb(hx:x<18446744073709551616)(h1:(ck (gZ x) 9218868437227405311==some .gt)=false)(h2:(ck x x != some .eq)=false):pL (eZ x)=true:=by
 have h:=Mf hx h2;refine RD ?_;have:=h.2;rcases Nat.lt_or_ge (x%9223372036854775808) 9218868437227405312 with h3|h3;exact h3;exfalso;have e:gZ x=9218868437227405312:=by unfold gZ;omega
 rw[e]at h1;exact absurd h1 (by decide)
def pM(x:Nat):Nat×Int:=if(ck (gZ x) 4503599627370496==some .lt)=true then(mulN x 4841369599423283200,-52)else(x,0)
def ldE(x:Nat)(n:Int):Int:=n+(pM x).2+(((pM x).1/4503599627370496%2048:Nat)-1023)
def ldN(x:Nat)(n:Int):Nat:=
 if(ck x 0==some .eq)=true then x
 else if ldE x n < -1075 then DF (pM x).1
 else if 1023<ldE x n then(if(ck (pM x).1 0==some .lt)=true then 18442240474082181120 else 9218868437227405312)
 else if -1022<=ldE x n then mulN 4607182418800017408 (kf (pM x).1 (ldE x n+1023).toNat)
 else mulN 4368491638549381120 (kf (pM x).1 (ldE x n+53+1023).toNat)
theorem RF(hx:x<18446744073709551616)(hf:pL (eZ x)=true):(pM x).1<18446744073709551616/\((pM x).2=0\/(pM x).2 = -52)/\∀w,Calls PP 259 #[.float .f64 x] w fun z w'=>z = .returned (.tuple #[.float .f64 (pM x).1,.int .i64 (pM x).2])/\w'=w:=by
 unfold pM;by_cases h:(ck (gZ x) 4503599627370496==some .lt)=true;obtain⟨h1,h2⟩:=Gh hf (show pL (eZ 4841369599423283200)=true by decide);rw[if_pos h];exact⟨h2.1,.inr rfl,fun w=>AF x _ w hx h h1⟩;rw[if_neg h];exact⟨hx,.inl rfl,fun w=>AE x w hx (Bool.eq_false_iff.2 h)⟩
theorem RG(x:Nat)(n:Int)(hx:x<18446744073709551616)(iI:0<=n)(ga:n<=32)(h1:(ck (gZ x) 9218868437227405311==some .gt)=false)(h2:(ck x x != some .eq)=false) :
   pK (ldN x n)/\∀w,Calls PP 231 #[.float .f64 x,.int .i64 n] w fun z w'=>z = .returned (.float .f64 (ldN x n))/\w'=w:=by
 have hf:=Xb hx h1 h2;unfold ldN;by_cases h0:(ck x 0==some .eq)=true;rw[if_pos h0];exact⟨Mf hx h2,fun w=>Ki x n w hx iI ga h0⟩;rw[if_neg h0];have h0:=Bool.eq_false_iff.2 h0;obtain⟨hy,he,hN⟩:=RF hx hf;have hq:=RE hy;unfold ldE;generalize(pM x).1=y at *;generalize(pM x).2=e at *;have Pa:y/4503599627370496%2048<=2047:=by omega
 generalize hqe:y/4503599627370496%2048=q at *;have L:=fun(w:World)=>@Ox x n w hx iI ga y q e hy he Pa hq hN h0 h1 h2;by_cases c1:n+e+((q:Int)-1023) < -1075;rw[if_pos c1];refine⟨⟨?_,?_⟩,fun w=>L w c1⟩<;>unfold DF<;>omega;rw[if_neg c1];by_cases c2:1023<n+e+((q:Int)-1023);rw[if_pos c2];by_cases c3:(ck y 0==some .lt)=true;rw[if_pos c3];exact⟨⟨by decide,by decide⟩,fun w=>@Oy x n w hx iI ga y q e hy he Pa hq hN h0 h1 h2 c2 c3⟩;rw[if_neg c3];exact⟨⟨by decide,by decide⟩,fun w=>@Oz x n w hx iI ga y q e hy he Pa hq hN h0 h1 h2 c2 (Bool.eq_false_iff.2 c3)⟩;rw[if_neg c2];by_cases c4: -1022<=n+e+((q:Int)-1023);rw[if_pos c4];obtain⟨k,hk⟩:∃k:Nat,n+e+((q:Int)-1023)+1023=k:=⟨(n+e+((q:Int)-1023)+1023).toNat,by omega⟩;rw[hk,Int.toNat_natCast];have hz:=Ij hy (show k<2048 by omega);obtain⟨hr,VE⟩:=Gh (show pL (eZ 4607182418800017408)=true by decide) (Ez (y:=y) (show k<=2046 by omega));exact⟨VE,fun w=>@OA x n w hx iI ga y q e hy he Pa hq hN h0 h1 h2 k _ _ hk (by omega) (by omega) hz hr⟩;rw[if_neg c4];obtain⟨k,hk⟩:∃k:Nat,n+e+((q:Int)-1023)+53+1023=k:=⟨(n+e+((q:Int)-1023)+53+1023).toNat,by omega⟩;rw[hk,Int.toNat_natCast];have hz:=Ij hy (show k<2048 by omega);obtain⟨hr,VE⟩:=Gh (show pL (eZ 4368491638549381120)=true by decide) (Ez (y:=y) (show k<=2046 by omega));exact⟨VE,fun w=>@OB x n w hx iI ga y q e hy he Pa hq hN h0 h1 h2 k _ _ hk (by omega) (by omega) hz hr⟩
end
section
open Go.RowKit Go Ieee
theorem Kl(r:Nat):double.word false r=r:=rfl
theorem Km{d b:Nat}(hd:d<=1074)(ma:4503599627370496<=b)(yL:b<9007199254740992):eZ (d*4503599627370496+b) = .number false b (-1074+(d:Int)):=by
 have h1:(d*4503599627370496+b)%9223372036854775808=d*4503599627370496+b:=Nat.mod_eq_of_lt (by omega);have h2:(d*4503599627370496+b)/9223372036854775808=0:=Nat.div_eq_of_lt (by omega);have h3:(d*4503599627370496+b)%4503599627370496=b-4503599627370496:=by omega
 have h4:(d*4503599627370496+b)/4503599627370496=d+1:=by omega
 unfold eZ;rw[h1,h2,if_neg (by omega),if_pos (by omega),h3,h4,Nat.add_sub_cancel,show 4503599627370496+(b-4503599627370496)=b by omega];rfl
theorem RH(k:Nat):Toward.even.cut false k 0=k:=by
 unfold Toward.cut;simp[Nat.mod_one]
theorem Ko{m L u:Nat}(h0:m≠0)(hL:m.log2=L)(hu:L+u=52):double.nearest false m 0=min ((1074-u)*4503599627370496+m*2 ^ u) 9218868437227405312:=by
 have e2:double.binade=4503599627370496:=by decide
 have e3:double.infRung=9218868437227405312:=by decide
 have e4:double.leastPlace = -1074:=by decide
 have e5:(double.fractionBits:Int)=52:=by decide
 have aei:max ((0:Int)+L-52) (-1074) = -(u:Int):=by omega
 unfold Format.nearest;rw[if_neg h0,Kl];simp only[hL,e2,e3,e4,e5,aei];have G1:((0:Int) - -(u:Int)).toNat=u:=by omega
 have NQ:(-(u:Int)-0).toNat=0:=by omega
 have ht:(-(u:Int) - -1074).toNat=1074-u:=by omega
 rw[G1,NQ,ht,RH,Nat.shiftLeft_eq]
theorem Ik{m L u:Nat}(h0:m≠0)(hL:m.log2=L)(hu:L+u=52):4503599627370496<=m*2 ^ u/\m*2 ^ u<9007199254740992:=by
 have I3:2 ^ L<=m:=by rw[<- hL];exact Nat.log2_self_le h0
 have Jb:m<2 ^ (L+1):=by rw[<- hL];exact Nat.lt_log2_self
 have h1:2 ^ L*2 ^ u<=m*2 ^ u:=Nat.mul_le_mul_right _ I3;have h2:m*2 ^ u<2 ^ (L+1)*2 ^ u:=Nat.mul_lt_mul_of_pos_right Jb (Nat.two_pow_pos u);rw[<- Nat.pow_add,hu]at h1;rw[<- Nat.pow_add,show L+1+u=53 by omega]at h2;exact⟨h1,h2⟩
theorem of_int(m:Nat):floatOfInt .f64 (m:Int)=double.nearest false m 0:=by
 show double.nearest (decide ((m:Int)<0)) (m:Int).natAbs 0=_;rw[decide_eq_false (by omega),Int.natAbs_natCast]
theorem aa8{m:Nat}(hm:m<9007199254740992):∃(b:Nat) (u:Nat),eZ (floatOfInt .f64 (m:Int)) = .number false b (-(u:Int))/\b=m*2 ^ u:=by
 rw[of_int];rcases Nat.eq_zero_or_pos m with h0|h0;subst h0;obtain⟨u,hu⟩:∃u:Nat,u=1074:=⟨_,rfl⟩;exact⟨0,u,by subst hu;decide,(Nat.zero_mul _).symm⟩;have hl3:m.log2<53:=(Nat.log2_lt (by omega)).2 hm;obtain⟨u,hu⟩:∃u:Nat,m.log2+u=52:=⟨52-m.log2,by omega⟩;obtain⟨h1,h2⟩:=Ik (by omega) rfl hu;rw[Ko (by omega) rfl hu];have hd:1074-u<=1074:=Nat.sub_le ..;have hd2:(1074-u:Nat)=1074-(u:Int):=by omega
 generalize 1074-u=d at *;refine⟨m*2 ^ u,u,?_,rfl⟩;generalize m*2 ^ u=b at *;rw[Nat.min_eq_left (by omega),Km hd h1 h2];congr 1;omega
theorem RI(x:Nat):eZ (gZ x)=match eZ x with
   |.number _ m p=>.number false m p
   |.infinity _=>.infinity false
   |.nan _ t=>.nan false t:=by
 have h1:gZ x%9223372036854775808=x%9223372036854775808:=by unfold gZ;omega
 have h2:gZ x/9223372036854775808=0:=by unfold gZ;omega
 unfold eZ;rw[h1,h2];split;rfl;split;rfl;split<;>rfl
theorem aa9{a b:Nat}(h:(some (compare (signed false a 0) (signed false b 0))==some Ordering.gt)=false):a<=b:=by
 rcases Nat.lt_or_ge b a with h1|h1;exfalso;have:compare (signed false a 0) (signed false b 0) = .gt:=by
   rw[iu,iu,Nat.shiftLeft_zero,Nat.shiftLeft_zero];exact Int.compare_eq_gt.2 (by omega)
 rw[this]at h;exact absurd h (by decide);exact h1
theorem EA(a u:Nat):signed false a u=signed false (a*2 ^ u) 0:=by
 rw[iu,iu,Nat.shiftLeft_zero,Nat.shiftLeft_eq]
theorem aa'{a m u:Nat}{p:Int}(h:(Datum.order (.number false a p) (.number false (m*2 ^ u) (-(u:Int)))==some Ordering.gt)=false)(s:Bool):Toward.zero.cut s (a <<< p.toNat) (-p).toNat<=m:=by
 have hk:∀n d,Toward.zero.cut s n d=n/2 ^ (min d (n.log2+2)):=by
   intro n d;unfold Toward.cut;simp only[Bool.toNat_false,Nat.add_zero,Nat.shiftLeft_eq,Nat.one_mul]
 rw[hk,Nat.shiftLeft_eq];simp only[Datum.order]at h;rw[EA,EA (m*2 ^ u)]at h;have h:=aa9 h;by_cases hp:0<=p;obtain⟨i,rfl⟩:∃i:Nat,p=i:=⟨p.toNat,by omega⟩;have e1:((i:Int)-min (i:Int) (-(u:Int))).toNat=i+u:=by omega
 have e2:(-(u:Int)-min (i:Int) (-(u:Int))).toNat=0:=by omega
 rw[e1,e2,Nat.pow_zero,Nat.mul_one,Nat.pow_add,<- Nat.mul_assoc]at h;have e3:(-(i:Int)).toNat=0:=by omega
 rw[e3,Nat.zero_min,Nat.pow_zero,Nat.div_one,Int.toNat_natCast];exact Nat.le_of_mul_le_mul_right h (Nat.two_pow_pos _);obtain⟨i,rfl⟩:∃i:Nat,p = -(i:Int):=⟨(-p).toNat,by omega⟩;have e3:(-(i:Int)).toNat=0:=by omega
 have e4:(- -(i:Int)).toNat=i:=by omega
 rw[e3,e4,Nat.pow_zero,Nat.mul_one];have hle:a<=m*2 ^ i:=by
   rcases Nat.le_total i u with hiu|hiu;have e1:(-(i:Int)-min (-(i:Int)) (-(u:Int))).toNat=u-i:=by omega
   have e2:(-(u:Int)-min (-(i:Int)) (-(u:Int))).toNat=0:=by omega
   rw[e1,e2,Nat.pow_zero,Nat.mul_one]at h;have e5:m*2 ^ u=(m*2 ^ i)*2 ^ (u-i):=by
     rw[Nat.mul_assoc,<- Nat.pow_add];congr 2;omega
   rw[e5]at h;exact Nat.le_of_mul_le_mul_right h (Nat.two_pow_pos _);have e1:(-(i:Int)-min (-(i:Int)) (-(u:Int))).toNat=0:=by omega
   have e2:(-(u:Int)-min (-(i:Int)) (-(u:Int))).toNat=i-u:=by omega
   rw[e1,e2,Nat.pow_zero,Nat.mul_one,Nat.mul_assoc,<- Nat.pow_add,show u+(i-u)=i by omega]at h;exact h
 rcases Nat.le_total i (a.log2+2)with hi|hi;rw[Nat.min_eq_left hi];exact Nat.div_le_of_le_mul (by rw[Nat.mul_comm];exact hle);rw[Nat.min_eq_right hi];have h1:a<2 ^ (a.log2+1):=Nat.lt_log2_self;have h2:2 ^ (a.log2+1)<=2 ^ (a.log2+2):=Nat.pow_le_pow_right (by omega) (by omega);rw[Nat.div_eq_of_lt (by omega)];exact Nat.zero_le _
def RJ(x:Nat):Int:=((eZ x).toInt .zero).getD 0
theorem RK{nr m:Nat}(h0:pK nr)(hm:m<=1099511627776)(h:(ck (gZ nr) (floatOfInt .f64 (m:Int))==some .gt)=false) :
   floatToIntVal .f64 nr .i64=some (RJ nr)/\-(m:Int)<=RJ nr/\RJ nr<=m:=by
 obtain⟨b,u,hb,rfl⟩:=aa8 (m:=m) (by omega);rw[Cj,hb,RI]at h;have h1:=Ci h0;have hd:FloatKind.f64.decode nr=eZ nr:=vd nr;unfold floatToIntVal;rw[hd];unfold RJ;have HR:IntKind.i64.min = -9223372036854775808:=by decide
 have abb:IntKind.i64.max=9223372036854775807:=by decide
 generalize eZ nr=d at *;cases d with
 | number s a p=>
   have hc:=aa' h s;simp only[Datum.toInt,Datum.integral];generalize Toward.zero.cut s (a <<< p.toNat) (-p).toNat=k at *;have hv:signed s k 0=k\/signed s k 0 = -(k:Int):=by
     cases s;left;rw[iu,Nat.shiftLeft_zero];right;rw[Ad,Nat.shiftLeft_zero]
   generalize signed s k 0=v at *;rw[HR,abb,if_pos (by omega)];refine⟨rfl,?_⟩;show -(m:Int)<=v/\v<=m;omega
 |infinity s=>exact absurd h (by simp[Datum.order])
 |nan s t=>cases h1
end
section
open Go.Sx Go.RowKit Go
def jh(x top:Nat):Int×Int:=
 if(ck x x != some .eq)=true then(0,2)
 else if(ck x 0==some .lt||ck x 0==some .eq)=true then(0,0)
 else if(ck x 4607182418800017408==some .gt||ck x 4607182418800017408==some .eq)=true then(top,0)
 else if 128<=1075-x/4503599627370496 then(0,0)
 else(((vU x*top/2 ^ (1075-x/4503599627370496):Nat):Int),0)
theorem Vh(x top:Nat)(w:World)(hx:x<18446744073709551616)(h0:top<=16777216):Calls PP 87 #[.float .f64 x,.int .i64 top] w fun e w'=>e = .returned (.tuple #[.int .i64 (jh x top).1,.int .i64 (jh x top).2])/\w'=w:=by
 unfold jh;by_cases h1:(ck x x != some .eq)=true;rw[if_pos h1];exact Vb x top w hx h0 h1;rw[if_neg h1];have h1:=At.2 h1;by_cases h2:(ck x 0==some .lt||ck x 0==some .eq)=true;rw[if_pos h2];exact Vd x top w hx h0 h1 h2;rw[if_neg h2];have h2:=At.2 h2;by_cases h3:(ck x 4607182418800017408==some .gt||ck x 4607182418800017408==some .eq)=true;rw[if_pos h3];exact O8 x top w hx h0 h1 h2 h3;rw[if_neg h3];have h3:=At.2 h3;have hq:=CQ hx h1 h2 h3;by_cases h4:128<=1075-x/4503599627370496;rw[if_pos h4];exact O9 x top w hx h0 h1 h2 h3 (1075-x/4503599627370496) (by omega) h4;rw[if_neg h4];rcases qK (1075-x/4503599627370496) 64 with h5|h5;exact Ve x top w hx h0 h1 h2 h3 (1075-x/4503599627370496) (by omega) (by omega) (by omega);exact Vg x top w hx h0 h1 h2 h3 (1075-x/4503599627370496) (by omega) h5 (by omega)
theorem Ym{x top:Nat}(hx:x<18446744073709551616)(h0:top<=16777216):(0<=(jh x top).1/\(jh x top).1<=top)/\0<=(jh x top).2/\(jh x top).2<=12:=by
 unfold jh;split;simp;split;simp;split;simp;rename_i h1 h2 h3;have hq:=CQ hx (At.2 h1) (At.2 h2) (At.2 h3);split;simp;refine⟨⟨Int.natCast_nonneg _,?_⟩,by simp,by simp⟩;have h:vU x*top/2 ^ (1075-x/4503599627370496)<=top:=by
   refine Nat.div_le_of_le_mul ?_;have hf:=yt x;have hp:2 ^ 53<=2 ^ (1075-x/4503599627370496):=Nat.pow_le_pow_right (by omega) (by omega);exact yJ _ (kI (Nat.le_of_lt hf) hp)
 exact Int.ofNat_le.2 h
def Yn:List DV->Option (List DV)
 | [.i x,.i top]=>if Pp x&&(decide (0<=top)&&decide (top<=16777216))then some [.i (jh x.toNat top.toNat).1,.i (jh x.toNat top.toNat).2]else none
 |_=>none
theorem aga{Wd:World->Prop}:Has PP Wd 87 (F9 Yj Yn):=by
 unfold Has;refine .inl ⟨fun w args=>dT Tryz.func87 rfl rfl w args,fun w vs ds hw ha hp=>?_⟩;obtain⟨rs,_,hx⟩:=hp;obtain⟨b8,rfl,hf⟩:=ha;unfold Yn at hx;split at hx;rename_i x top;split at hx;rename_i hc;cases hx;have CX:=hc;simp only[ao,aM]at CX
 match b8,hf with
 | [a,b],hf=>
   obtain⟨ha,hb,_⟩:=hf;simp only[kX]at ha hb;subst ha;subst hb;obtain⟨m,rfl,hm⟩:=wZ CX.1;obtain⟨n,rfl⟩:∃n:Nat,top=n:=⟨top.toNat,by omega⟩;refine(Vh m n w hm (by omega)).mono ?_;rintro e w' ⟨rfl,rfl⟩;refine⟨[.int .i64 (jh m n).1,.int .i64 (jh m n).2],[.i (jh m n).1,.i (jh m n).2],rfl,Below.refl _ _,⟨rfl,rfl,trivial⟩,Ga,?_⟩;show Yn _=_;simp only[Yn,hc,if_true,xm]
 cases hx;cases hx
variable {X:bY}
theorem amN:mO PP lG 87=none:=by kernel_rfl
theorem k87:kc 87=⟨[.i 0 18446744073709551615,.i 0 16777216],[],[.i 0 16777216,.i 0 12],[.le (rr 0) (.v 1)]⟩:=by kernel_rfl
theorem g87(hX:X 87=Yn):vy (mO PP lG) X 87 (kc 87).jA (kc 87).lh:=by
 rw[k87];rintro ds ⟨ha,_⟩
 match ds,ha with
 | [.i x,.i top],ha=>
   have hx:0<=x/\x<=18446744073709551615:=ha.1;have ht:0<=top/\top<=16777216:=ha.2.1;obtain⟨⟨u0,u1⟩,u2,u3⟩:=Ym (x:=x.toNat) (top:=top.toNat) (by omega) (by omega);refine⟨[.i (jh x.toNat top.toNat).1,.i (jh x.toNat top.toNat).2],jy amN ?_,⟨⟨u0,by omega⟩,⟨u2,u3⟩,trivial⟩,fun p hp=>?_⟩;rw[hX];simp only[Yn,su hx,Bool.true_and];rw[if_pos];simp only[ao,aM];exact ht;obtain rfl:p = .le (rr 0) (.v 1):=by simpa using hp
   have q0:jx [.i x,.i top] [.i (jh x.toNat top.toNat).1,.i (jh x.toNat top.toNat).2] R0 = .i (jh x.toNat top.toNat).1:=by
     have:=aH.ei (ae:=bj.aB 0 [DV.i x,DV.i top]) (k:=R0) (ds:=[DV.i (jh x.toNat top.toNat).1,DV.i (jh x.toNat top.toNat).2]) (i:=0) rfl;exact this
   have q1:jx [.i x,.i top] [.i (jh x.toNat top.toNat).1,.i (jh x.toNat top.toNat).2] 1 = .i top:=by
     rw[jx,aH.cA (by unfold R0;omega)];exact aH.ei (ae:=bj) (k:=0) (ds:=[DV.i x,DV.i top]) (i:=1) rfl
   simp only[BE.af,IE.af,rr,iM,q0,q1,DV.int,aM];omega
end
section
open Go.Sx Go.RowKit Go
def fU(x:Nat)(n m:Int):Int×Int:=
 if(ck x x != some .eq)=true then(0,2)
 else if(ck (gZ x) 9218868437227405311==some .gt)=true then(0,3)
 else if(ck (gZ (uy (ldN x n))) (floatOfInt .f64 m)==some .gt)=true then(0,4)
 else(RJ (uy (ldN x n)),0)
theorem OF(x:Nat)(n m:Int)(w:World)(hx:x<18446744073709551616)(iI:0<=n)(ga:n<=32)(uO:0<=m)(xj:m<=1099511627776):Calls PP 146 #[.float .f64 x,.int .i64 n,.int .i64 m] w fun e w'=>e = .returned (.tuple #[.int .i64 (fU x n m).1,.int .i64 (fU x n m).2])/\w'=w:=by
 unfold fU;by_cases h1:(ck x x != some .eq)=true;rw[if_pos h1];exact OC x n m w hx iI ga uO xj h1;rw[if_neg h1];have h1:=At.2 h1;by_cases h2:(ck (gZ x) 9218868437227405311==some .gt)=true;rw[if_pos h2];exact OD x n m w hx iI ga uO xj h1 h2;rw[if_neg h2];have h2:=At.2 h2;obtain⟨hl,hL⟩:=RG x n hx iI ga h2 h1;have hr:=Ii hl;have hR:=fun w=>OE hl w;by_cases h3:(ck (gZ (uy (ldN x n))) (floatOfInt .f64 m)==some .gt)=true;rw[if_pos h3];exact Ie x n m w hx iI ga uO xj _ _ hl.1 hr.1 h1 h2 hL hR h3;rw[if_neg h3];have h3:=At.2 h3;obtain⟨k,rfl⟩:∃k:Nat,m=k:=⟨m.toNat,by omega⟩;obtain⟨hv,_⟩:=RK hr (by omega) h3;exact RC x n k w hx iI ga uO xj _ _ hl.1 hr.1 h1 h2 hL hR _ h3 hv
theorem RL{x:Nat}{n m:Int}(hx:x<18446744073709551616)(iI:0<=n)(ga:n<=32)(uO:0<=m)(xj:m<=1099511627776):(-m<=(fU x n m).1/\(fU x n m).1<=m)/\0<=(fU x n m).2/\(fU x n m).2<=12:=by
 unfold fU;by_cases h1:(ck x x != some .eq)=true;rw[if_pos h1];exact⟨⟨by omega,uO⟩,by decide,by decide⟩;rw[if_neg h1];have h1:=At.2 h1;by_cases h2:(ck (gZ x) 9218868437227405311==some .gt)=true;rw[if_pos h2];exact⟨⟨by omega,uO⟩,by decide,by decide⟩;rw[if_neg h2];have h2:=At.2 h2;obtain⟨hl,hL⟩:=RG x n hx iI ga h2 h1;have hr:=Ii hl;by_cases h3:(ck (gZ (uy (ldN x n))) (floatOfInt .f64 m)==some .gt)=true;rw[if_pos h3];exact⟨⟨by omega,uO⟩,by decide,by decide⟩;rw[if_neg h3];have h3:=At.2 h3;obtain⟨k,rfl⟩:∃k:Nat,m=k:=⟨m.toNat,by omega⟩;obtain⟨_,hv⟩:=RK hr (by omega) h3;exact⟨hv,Int.le_refl _,by show(0:Int)<=12;decide⟩
def Gi:List DV->Option (List DV)
 | [.i x,.i n,.i m]=>if Pp x&&((decide (0<=n)&&decide (n<=32))&&(decide (0<=m)&&decide (m<=1099511627776)))then some [.i (fU x.toNat n m).1,.i (fU x.toNat n m).2]else none
 |_=>none
theorem abd{Wd:World->Prop}:Has PP Wd 146 (F9 Mg Gi):=by
 unfold Has;refine .inl ⟨fun w args=>dT Tryz.func146 rfl rfl w args,fun w vs ds hw ha hp=>?_⟩;obtain⟨rs,_,hx⟩:=hp;obtain⟨b8,rfl,hf⟩:=ha;unfold Gi at hx;split at hx;rename_i x n m;split at hx;rename_i hc;cases hx;have CX:=hc;simp only[ao,aM]at CX
 match b8,hf with
 | [a,b,c],hf=>
   obtain⟨ha,hb,hcc,_⟩:=hf;simp only[kX]at ha hb hcc;subst ha;subst hb;subst hcc;obtain⟨k,rfl,hm⟩:=wZ CX.1;refine(OF k n m w hm CX.2.1.1 CX.2.1.2 CX.2.2.1 CX.2.2.2).mono ?_;rintro e w' ⟨rfl,rfl⟩;refine⟨[.int .i64 (fU k n m).1,.int .i64 (fU k n m).2],[.i (fU k n m).1,.i (fU k n m).2],rfl,Below.refl _ _,⟨rfl,rfl,trivial⟩,Ga,?_⟩;show Gi _=_;simp only[Gi,hc,if_true,xm]
 cases hx;cases hx
variable {X:bY}
theorem aej:mO PP lG 146=none:=by kernel_rfl
theorem ai8:kc 146=⟨[.i 0 18446744073709551615,.i 0 32,.i 0 1099511627776],[],[.i (-1099511627776) 1099511627776,.i 0 12],[.le (.sub (.c 0) (.v 2)) (rr 0),.le (rr 0) (.v 2)]⟩:=by kernel_rfl
theorem ai9(hX:X 146=Gi):vy (mO PP lG) X 146 (kc 146).jA (kc 146).lh:=by
 rw[ai8];rintro ds ⟨ha,_⟩
 match ds,ha with
 | [.i x,.i n,.i m],ha=>
   have hx:0<=x/\x<=18446744073709551615:=ha.1;have hn:0<=n/\n<=32:=ha.2.1;have hm:0<=m/\m<=1099511627776:=ha.2.2.1;obtain⟨⟨u0,u1⟩,u2,u3⟩:=RL (x:=x.toNat) (n:=n) (m:=m) (by omega) hn.1 hn.2 hm.1 hm.2;refine⟨[.i (fU x.toNat n m).1,.i (fU x.toNat n m).2],jy aej ?_,⟨⟨by omega,by omega⟩,⟨u2,u3⟩,trivial⟩,fun p hp=>?_⟩;rw[hX];simp only[Gi,su hx,Bool.true_and];rw[if_pos];simp only[ao,aM];exact⟨hn,hm⟩;have q0:jx [.i x,.i n,.i m] [.i (fU x.toNat n m).1,.i (fU x.toNat n m).2] R0 = .i (fU x.toNat n m).1:=by
     have:=aH.ei (ae:=bj.aB 0 [DV.i x,DV.i n,DV.i m]) (k:=R0) (ds:=[DV.i (fU x.toNat n m).1,DV.i (fU x.toNat n m).2]) (i:=0) rfl;exact this
   have q2:jx [.i x,.i n,.i m] [.i (fU x.toNat n m).1,.i (fU x.toNat n m).2] 2 = .i m:=by
     rw[jx,aH.cA (by unfold R0;omega)];exact aH.ei (ae:=bj) (k:=0) (ds:=[DV.i x,DV.i n,DV.i m]) (i:=2) rfl
   have BH:p = .le (.sub (.c 0) (.v 2)) (rr 0)\/p = .le (rr 0) (.v 2):=by simpa using hp
   rcases BH with rfl|rfl;simp only[BE.af,IE.af,rr,iM,q0,q2,DV.int,aM];omega;simp only[BE.af,IE.af,rr,iM,q0,q2,DV.int,aM];omega
end
section
open Go.Sx Go.RowKit Go
def XX(f:List DV->Option (List DV)):bY:=fun k ds=>
 if k=283 then zh ds else if k=140 then F8 ds else if k=243 then Cg ds else if k=266 then Ch ds else if k=87 then Yn ds else if k=146 then Gi ds else if k=169 then f ds else none
variable (f:List DV->Option (List DV))
theorem agb:XX f 283=zh:=rfl
theorem agc:XX f 140=F8:=rfl
theorem agd:XX f 243=Cg:=rfl
theorem age:XX f 266=Ch:=rfl
theorem amO:XX f 87=Yn:=rfl
theorem agf:XX f 146=Gi:=rfl
theorem ZE{k:Nat}(h:Xd k=true):k=283\/k=140\/k=243\/k=266\/k=87\/k=146\/k=169:=by
 obtain⟨x,hx,e⟩:=mr.1 h;have e:=mq e;subst e;simpa[xs]using hx
theorem ac7{k:Nat}(h:Xd k=false):k≠283/\k≠140/\k≠243/\k≠266/\k≠87/\k≠146/\k≠169:=by
 refine⟨?_,?_,?_,?_,?_,?_,?_⟩<;>(rintro rfl;exact absurd h (by decide))
theorem Vi:qX 283=some MC:=by kernel_rfl
theorem Vj:qX 140=some Me:=by kernel_rfl
theorem Vk:qX 243=some Mc:=by kernel_rfl
theorem Vl:qX 266=some Md:=by kernel_rfl
theorem ZF:qX 87=some Yj:=by kernel_rfl
theorem Vm:qX 146=some Mg:=by kernel_rfl
theorem Vn:qX 169=some CN:=by kernel_rfl
theorem af3(hr:gF)(amP:Has PP Wd 169 (F9 CN f))(ace:∀ds rs,f ds=some rs->kinds (bL CN.res) rs=true):BU PP Wd (TT PP) (XX f) Xd qX:=by
 refine ac6 hr (fun k hk s hs=>?_) (fun k s hk hs ds rs h=>?_) (fun k ds hk=>?_);rcases ZE hk with rfl|rfl|rfl|rfl|rfl|rfl|rfl;rw[Vi]at hs;cases hs;exact abW;rw[Vj]at hs;cases hs;exact aa6;rw[Vk]at hs;cases hs;exact aa4;rw[Vl]at hs;cases hs;exact aa5;rw[ZF]at hs;cases hs;exact aga;rw[Vm]at hs;cases hs;exact abd;rw[Vn]at hs;cases hs;exact amP;rcases ZE hk with rfl|rfl|rfl|rfl|rfl|rfl|rfl;rw[Vi]at hs;cases hs;rw[agb]at h;unfold zh at h;split at h;split at h<;>cases h;rfl;cases h;rw[Vj]at hs;cases hs;rw[agc]at h;unfold F8 at h;split at h;split at h<;>cases h;rfl;cases h;rw[Vk]at hs;cases hs;rw[agd]at h;unfold Cg at h;split at h;split at h<;>cases h;rfl;cases h;rw[Vl]at hs;cases hs;rw[age]at h;unfold Ch at h;split at h;split at h<;>cases h;rfl;cases h;rw[ZF]at hs;cases hs;rw[amO]at h;unfold Yn at h;split at h;split at h<;>cases h;rfl;cases h;rw[Vm]at hs;cases hs;rw[agf]at h;unfold Gi at h;split at h;split at h<;>cases h;rfl;cases h;rw[Vn]at hs;cases hs;exact ace ds rs h;obtain⟨h1,h2,h3,h4,h5,h6,h7⟩:=ac7 hk;simp only[XX,h1,h2,h3,h4,h5,h6,h7,if_false]
theorem amc(hr:gF):BU PP Wd (TT PP) (XX fun _=>none) Xd qX:=
 af3 _ hr (by
   unfold Has;refine .inl ⟨fun w args=>dT Tryz.func169 rfl rfl w args,fun w vs ds hw ha hp=>?_⟩;obtain⟨rs,_,hx⟩:=hp;cases hx) (fun ds rs h=>by cases h)
end
end Go.Proofs.YtohebioanhliiaaGreatDoor.av
