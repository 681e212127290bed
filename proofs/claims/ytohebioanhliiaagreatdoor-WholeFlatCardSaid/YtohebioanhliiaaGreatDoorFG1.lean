/- real.Unit and real.Fixed, by the walk. -/
import Derived.Test.YtohebioanhliiaaGreatDoorFB2
import Derived.Shelf.Bits.Mul64
set_option maxRecDepth 20000
set_option linter.unusedVariables false
set_option linter.unusedSimpArgs false
namespace Go.Proofs.YtohebioanhliiaaGreatDoor.aN
section
open Go.RowKit Go Go.Shelf
def anl:Ren:=⟨fun x=>if x=264 then 139 else x,fun x=>if x=46 then 198 else if x=53 then 232 else x,fun x=>x⟩
theorem TU:Lays.n264 Tryz.prog anl where
 mixed:=by kernel_rfl
 f264:=by kernel_rfl
 t46:=by kernel_rfl
 a46:=fun w=>by kernel_rfl
 z46:=fun w=>by kernel_rfl
 v46:=fun w=>by kernel_rfl
 t53:=by kernel_rfl
 a53:=fun w=>by kernel_rfl
 z53:=fun w=>by kernel_rfl
 v53:=fun w=>by kernel_rfl
theorem F3(x y:Nat)(hx:x<18446744073709551616)(hy:y<18446744073709551616)(w:World) :
   Calls Tryz.prog 139 #[.int .u64 x,.int .u64 y] w fun e w'=>e = .returned (.tuple #[.int .u64 ((x*y/18446744073709551616:Nat):Int),.int .u64 ((x*y%18446744073709551616:Nat):Int)])/\w'=w:=Any.bits_Mul64 TU x y hx hy w
theorem jo(x:Nat)(w:World):(callFunc 138 #[.float .f64 x]).run Tryz.prog w = .ok (.value (.int .u64 x)) w:=by
 rw[run_callFunc_extern Tryz.func138 (by kernel_rfl) (by kernel_rfl) (by kernel_rfl) (e:=Extern.MathFloatBits.float64bits) (by kernel_rfl)];rfl
abbrev cz(x y:Nat):Option Ordering:=FloatKind.f64.format.order x y
def vB(x:Nat):Nat:=(x &&& 4503599627370495) |||4503599627370496
theorem xG(x:Nat):vB x<9007199254740992:=by
 have:x &&& 4503599627370495<2 ^ 53:=Nat.lt_of_le_of_lt Nat.and_le_right (by decide);exact Nat.or_lt_two_pow this (by decide)
theorem TV{x:Nat}(hx:x<18446744073709551616):bits .or .u64 (bits .and .u64 (x:Int) 4503599627370495) 4503599627370496=(vB x:Int):=by
 have e1:=bits_and_u64_nat x 4503599627370495 hx (by decide);have l1:x &&& 4503599627370495<18446744073709551616:=Nat.lt_of_le_of_lt Nat.and_le_right (by decide);have e2:=bits_or_u64_nat (x &&& 4503599627370495) 4503599627370496 l1 (by decide);rw[show(4503599627370495:Int)=((4503599627370495:Nat):Int)from rfl,e1];exact e2
theorem Xp{p d:Nat}(Cc:53<=d)(Aa:d<=63)(hp:p<2 ^ 53*16777217):wrap64 (bits .or .u64 (IntKind.u64.wrap (((p:Nat):Int)/18446744073709551616*2 ^ (64-d))) (((p:Nat):Int)%18446744073709551616/2 ^ d))=((p/2 ^ d:Nat):Int):=by
 have ed:2 ^ (64-d)*2 ^ d=18446744073709551616:=by rw[<- Nat.pow_add,show 64-d+d=64 by omega]
 have pd:0<2 ^ d:=Nat.pow_pos (by omega);have pe:0<2 ^ (64-d):=Nat.pow_pos (by omega);have e1:p/2 ^ d=p/18446744073709551616*2 ^ (64-d)+p%18446744073709551616/2 ^ d:=by
   have:=Nat.div_add_mod p 18446744073709551616;have e2:p=p%18446744073709551616+2 ^ d*(p/18446744073709551616*2 ^ (64-d)):=by
     have:2 ^ d*(p/18446744073709551616*2 ^ (64-d))=p/18446744073709551616*(2 ^ (64-d)*2 ^ d):=by
       rw[Nat.mul_comm,Nat.mul_assoc]
     rw[this,ed];omega
   conv=>lhs;rw[e2]
   rw[Nat.add_mul_div_left _ _ pd];omega
 have l1:p%18446744073709551616/2 ^ d<2 ^ (64-d):=by
   rw[Nat.div_lt_iff_lt_mul pd,ed];exact Nat.mod_lt _ (by decide)
 have l2:p/2 ^ d<16777217:=by
   rw[Nat.div_lt_iff_lt_mul pd];have:2 ^ 53<=2 ^ d:=Nat.pow_le_pow_right (by omega) Cc;have:=Nat.mul_le_mul_left 16777217 this;omega
 have c1:((p:Nat):Int)/18446744073709551616*2 ^ (64-d)=((p/18446744073709551616*2 ^ (64-d):Nat):Int):=by
   rw[Int.natCast_mul,Int.natCast_ediv,Int.natCast_pow];rfl
 have c2:((p:Nat):Int)%18446744073709551616/2 ^ d=((p%18446744073709551616/2 ^ d:Nat):Int):=by
   rw[Int.natCast_ediv,Int.natCast_emod,Int.natCast_pow];rfl
 rw[c1,c2];have l3:2 ^ (64-d)<=2 ^ 11:=Nat.pow_le_pow_right (by omega) (by omega);have A0:=Nat.two_pow_add_eq_or_of_lt l1 (p/18446744073709551616);rw[Nat.mul_comm]at A0;generalize p/2 ^ d=Q at *;generalize p/18446744073709551616*2 ^ (64-d)=A at *;generalize p%18446744073709551616/2 ^ d=B at *;have hA:IntKind.u64.wrap (A:Int)=A:=by rw[IntKind.wrap_u64];omega
 rw[hA,bits_or_u64_nat _ _ (by omega) (by omega),<- A0,<- e1];unfold wrap64;omega
theorem Xq{p d:Nat}(Cc:64<=d)(hp:p<2 ^ 53*16777217):wrap64 (((p:Nat):Int)/18446744073709551616/2 ^ (d-64))=((p/2 ^ d:Nat):Int):=by
 have e0:18446744073709551616*2 ^ (d-64)=2 ^ d:=by
   rw[show 18446744073709551616=2 ^ 64 from rfl,<- Nat.pow_add,show 64+(d-64)=d by omega]
 have e1:p/18446744073709551616/2 ^ (d-64)=p/2 ^ d:=by rw[Nat.div_div_eq_div_mul,e0]
 have c1:((p:Nat):Int)/18446744073709551616/2 ^ (d-64)=((p/18446744073709551616/2 ^ (d-64):Nat):Int):=by
   rw[Int.natCast_ediv,Int.natCast_ediv,Int.natCast_pow];rfl
 have l:p/18446744073709551616/2 ^ (d-64)<=p/18446744073709551616:=Nat.div_le_self _ _;rw[c1,<- e1];generalize p/18446744073709551616/2 ^ (d-64)=A at *;unfold wrap64;omega
theorem afZ{x top:Nat}(h0:top<=16777216):vB x*top<2 ^ 53*16777217:=by
 have:=xG x;have h:=Nat.mul_le_mul (Nat.le_of_lt this) h0;omega
section
variable (x top:Nat)(w:World)(hx:x<18446744073709551616)(h0:top<=16777216)
theorem TW(x:Nat)(top:Nat)(w:World)(hx:x<18446744073709551616)(h0:top<=16777216)(h1:(cz x x != some .eq)=true):Calls Tryz.prog 87 #[.float .f64 x,.int .i64 top] w fun e w'=>e = .returned (.tuple #[.int .i64 0,.int .i64 2])/\w'=w:=by
 go_enter Tryz.func87,Tryz.ntmps87
 go_wp2
 all_goals first|(go_ret2;exact⟨rfl,rfl⟩)|skip
 all_goals simp_all
theorem TX(x:Nat)(top:Nat)(w:World)(hx:x<18446744073709551616)(h0:top<=16777216)(h1:(cz x x != some .eq)=false)(h2:(cz x 0==some .lt||cz x 0==some .eq)=true):Calls Tryz.prog 87 #[.float .f64 x,.int .i64 top] w fun e w'=>e = .returned (.tuple #[.int .i64 0,.int .i64 0])/\w'=w:=by
 go_enter Tryz.func87,Tryz.ntmps87
 go_wp2
 all_goals first|(go_ret2;exact⟨rfl,rfl⟩)|skip
 all_goals simp_all
theorem NQ(x:Nat)(top:Nat)(w:World)(hx:x<18446744073709551616)(h0:top<=16777216)(h1:(cz x x != some .eq)=false)(h2:(cz x 0==some .lt||cz x 0==some .eq)=false)(h3:(cz x 4607182418800017408==some .gt||cz x 4607182418800017408==some .eq)=true):Calls Tryz.prog 87 #[.float .f64 x,.int .i64 top] w fun e w'=>e = .returned (.tuple #[.int .i64 top,.int .i64 0])/\w'=w:=by
 go_enter Tryz.func87,Tryz.ntmps87
 go_wp2
 all_goals first|(go_ret2;exact⟨rfl,rfl⟩)|skip
 all_goals simp_all
theorem TY(x:Nat)(top:Nat)(w:World)(hx:x<18446744073709551616)(h0:top<=16777216)(h1:(cz x x != some .eq)=false)(h2:(cz x 0==some .lt||cz x 0==some .eq)=false)(h3:(cz x 4607182418800017408==some .gt||cz x 4607182418800017408==some .eq)=false)(d:Nat)(hd:x/4503599627370496+d=1075)(Cc:53<=d)(Aa:d<=63) :
   Calls Tryz.prog 87 #[.float .f64 x,.int .i64 top] w fun e w'=>e = .returned (.tuple #[.int .i64 ((vB x*top/2 ^ d:Nat):Int),.int .i64 0])/\w'=w:=by
 have hb:∀w,(callFunc 138 #[.float .f64 x]).run Tryz.prog w = .ok (.value (.int .u64 x)) w:=jo x;have hm:=TV hx;have hw:IntKind.u64.wrap (top:Int)=top:=by rw[IntKind.wrap_u64];omega
 have hf:=xG x;have hqd:1075-(x:Int)/4503599627370496=(d:Int):=by omega
 have n1:¬ (128:Int)<=d:=by omega
 have n2:¬ (64:Int)<=d:=by omega
 have wd:IntKind.u64.wrap (d:Int)=d:=by rw[IntKind.wrap_u64];omega
 have w6:IntKind.u64.wrap (64-(d:Int))=((64-d:Nat):Int):=by rw[IntKind.wrap_u64];omega
 go_enter Tryz.func87,Tryz.ntmps87
 go_wp2_with (go_at_call 139;refine(F3 (vB x) top (by omega) (by omega) _).mono ?_;rintro e w1 ⟨rfl,rfl⟩)
 have t:=Xp Cc Aa (afZ (x:=x) h0);rw[Int.natCast_mul]at t
 all_goals go_ret2
 all_goals refine⟨?_,rfl⟩
 all_goals rw[<- t]
 all_goals rfl
theorem TZ(x:Nat)(top:Nat)(w:World)(hx:x<18446744073709551616)(h0:top<=16777216)(h1:(cz x x != some .eq)=false)(h2:(cz x 0==some .lt||cz x 0==some .eq)=false)(h3:(cz x 4607182418800017408==some .gt||cz x 4607182418800017408==some .eq)=false)(d:Nat)(hd:x/4503599627370496+d=1075)(Cc:64<=d)(Aa:d<=127) :
   Calls Tryz.prog 87 #[.float .f64 x,.int .i64 top] w fun e w'=>e = .returned (.tuple #[.int .i64 ((vB x*top/2 ^ d:Nat):Int),.int .i64 0])/\w'=w:=by
 have hb:∀w,(callFunc 138 #[.float .f64 x]).run Tryz.prog w = .ok (.value (.int .u64 x)) w:=jo x;have hm:=TV hx;have hw:IntKind.u64.wrap (top:Int)=top:=by rw[IntKind.wrap_u64];omega
 have hf:=xG x;have hqd:1075-(x:Int)/4503599627370496=(d:Int):=by omega
 have n1:¬ (128:Int)<=d:=by omega
 have n2:(64:Int)<=d:=by omega
 have w6:IntKind.u64.wrap ((d:Int)-64)=((d-64:Nat):Int):=by rw[IntKind.wrap_u64];omega
 go_enter Tryz.func87,Tryz.ntmps87
 go_wp2_with (go_at_call 139;refine(F3 (vB x) top (by omega) (by omega) _).mono ?_;rintro e w1 ⟨rfl,rfl⟩)
 have t:=Xq Cc (afZ (x:=x) h0);rw[Int.natCast_mul]at t
 all_goals go_ret2
 all_goals refine⟨?_,rfl⟩
 all_goals rw[<- t]
 all_goals rfl
theorem NR(x:Nat)(top:Nat)(w:World)(hx:x<18446744073709551616)(h0:top<=16777216)(h1:(cz x x != some .eq)=false)(h2:(cz x 0==some .lt||cz x 0==some .eq)=false)(h3:(cz x 4607182418800017408==some .gt||cz x 4607182418800017408==some .eq)=false)(d:Nat)(hd:x/4503599627370496+d=1075)(Cc:128<=d) :
   Calls Tryz.prog 87 #[.float .f64 x,.int .i64 top] w fun e w'=>e = .returned (.tuple #[.int .i64 0,.int .i64 0])/\w'=w:=by
 have hb:∀w,(callFunc 138 #[.float .f64 x]).run Tryz.prog w = .ok (.value (.int .u64 x)) w:=jo x;have hm:=TV hx;have hw:IntKind.u64.wrap (top:Int)=top:=by rw[IntKind.wrap_u64];omega
 have hf:=xG x;have hqd:1075-(x:Int)/4503599627370496=(d:Int):=by omega
 have n1:(128:Int)<=d:=by omega
 go_enter Tryz.func87,Tryz.ntmps87
 go_wp2_with (go_at_call 139;refine(F3 (vB x) top (by omega) (by omega) _).mono ?_;rintro e w1 ⟨rfl,rfl⟩)
 all_goals first|(go_ret2;exact⟨rfl,rfl⟩)|skip
end
end
section
open Go.RowKit Go Ieee
def fp(x:Nat):Datum:=
 if x%9223372036854775808<4503599627370496 then .number (x/9223372036854775808%2==1) (x%9223372036854775808) (-1074)
 else if x%9223372036854775808<9218868437227405312 then .number (x/9223372036854775808%2==1) (4503599627370496+x%9223372036854775808%4503599627370496) (-1074+((x%9223372036854775808/4503599627370496-1:Nat):Int))
 else if x%9223372036854775808=9218868437227405312 then .infinity (x/9223372036854775808%2==1)
 else .nan (x/9223372036854775808%2==1) (x%9223372036854775808-9218868437227405312)
theorem uM(x:Nat):FloatKind.f64.format.read x=fp x:=by
 show Ieee.Format.read double x=fp x;have e1:double.signWeight=9223372036854775808:=by decide
 have e2:double.binade=4503599627370496:=by decide
 have e3:double.infRung=9218868437227405312:=by decide
 have e4:double.leastPlace = -1074:=by decide
 simp only[Format.read,e1,e2,e3,e4,fp]
theorem BD(x y:Nat):cz x y=(fp x).order (fp y):=by
 show(FloatKind.f64.format.read x).order (FloatKind.f64.format.read y)=_;rw[uM,uM]
theorem af0:fp 0 = .number false 0 (-1074):=by decide
theorem af1:fp 4607182418800017408 = .number false 4503599627370496 (-52):=by decide
theorem zx(m u:Nat):signed true m u = -((m <<< u:Nat):Int):=rfl
theorem iD(m u:Nat):signed false m u=((m <<< u:Nat):Int):=rfl
theorem B7{x:Nat}(hx:x<18446744073709551616)(h1:(cz x x != some .eq)=false)(h2:(cz x 0==some .lt||cz x 0==some .eq)=false)(h3:(cz x 4607182418800017408==some .gt||cz x 4607182418800017408==some .eq)=false):x/4503599627370496<=1022:=by
 rw[BD]at h1;rw[BD,af0]at h2;rw[BD,af1]at h3;rcases Nat.lt_or_ge x 9223372036854775808 with hs|hs;have es:(x/9223372036854775808%2==1)=false:=by rw[Nat.div_eq_of_lt hs];rfl
 have em:x%9223372036854775808=x:=Nat.mod_eq_of_lt hs;rcases Nat.lt_or_ge 1022 (x/4503599627370496)with hq|hq;exfalso;unfold fp at h1 h3;rw[es,em]at h1 h3;rw[if_neg (by omega)]at h1 h3;split at h3;rename_i h;simp only[Datum.order,iD]at h3;have eb:min (-1074+((x/4503599627370496-1:Nat):Int)) (-52) = -52:=by omega
 rw[eb,show((-52:Int) - -52).toNat=0 from rfl,Nat.shiftLeft_zero]at h3;generalize hu:(-1074+((x/4503599627370496-1:Nat):Int) - -52).toNat=u at h3;have:4503599627370496<=(4503599627370496+x%4503599627370496) <<< u:=by
   rw[Nat.shiftLeft_eq];have:=Nat.pow_pos (n:=u) (show 0<2 by omega);have:=Nat.le_mul_of_pos_right (4503599627370496+x%4503599627370496) this;omega
 generalize(4503599627370496+x%4503599627370496) <<< u=m at *;rcases Nat.lt_or_ge 4503599627370496 m with hm|hm;have:compare (m:Int) ((4503599627370496:Nat):Int) = .gt:=Int.compare_eq_gt.2 (by omega);rw[this]at h3;exact absurd h3 (by decide);have:compare (m:Int) ((4503599627370496:Nat):Int) = .eq:=Int.compare_eq_eq.2 (by omega);rw[this]at h3;exact absurd h3 (by decide);rename_i h;rw[if_neg h]at h1;split at h3;exact absurd h3 (by decide);rename_i h';rw[if_neg h']at h1;exact absurd h1 (by simp[Datum.order]);exact hq;exfalso;have es:(x/9223372036854775808%2==1)=true:=by
   have:x/9223372036854775808=1:=by omega
   rw[this];rfl
 unfold fp at h1 h2;rw[es]at h1 h2;have key:∀(m u v:Nat),(some (compare (signed true m u) (signed false 0 v))==some Ordering.lt||some (compare (signed true m u) (signed false 0 v))==some Ordering.eq)=true:=by
   intro m u v;rw[zx,iD,Nat.zero_shiftLeft];rcases Nat.eq_zero_or_pos (m <<< u)with e|e;rw[e];decide;have:compare (-((m <<< u:Nat):Int)) ((0:Nat):Int) = .lt:=Int.compare_eq_lt.2 (by omega);rw[this];decide
 split at h2;simp only[Datum.order,key]at h2;exact absurd h2 (by decide);rename_i h;rw[if_neg h]at h1;split at h2;simp only[Datum.order,key]at h2;exact absurd h2 (by decide);rename_i h';rw[if_neg h']at h1;split at h2;exact absurd h2 (by decide);rename_i h'';rw[if_neg h'']at h1;exact absurd h1 (by simp[Datum.order])
end
section
open Go.RowKit Go
def iu(x:Nat):Nat:=x%9223372036854775808
theorem Ht{x:Nat}(hx:x<18446744073709551616):bits .andNot .u64 (x:Int) 9223372036854775808=(iu x:Int):=by
 have h1:(BitVec.ofInt 64 (x:Int)).toNat=x:=by
   rw[BitVec.ofInt_natCast,BitVec.toNat_ofNat];exact Nat.mod_eq_of_lt (by omega)
 show IntKind.u64.wrap ((BitVec.ofInt 64 (x:Int) &&& ~~~ BitVec.ofInt 64 9223372036854775808).toNat:Int)=_;have h2:(~~~ BitVec.ofInt 64 9223372036854775808).toNat=2 ^ 63-1:=by decide
 rw[BitVec.toNat_and,h1,h2,Nat.and_two_pow_sub_one_eq_mod,IntKind.wrap_u64];unfold iu;omega
theorem qW(x:Nat)(w:World):(callFunc 140 #[.int .u64 x]).run Tryz.prog w = .ok (.value (.float .f64 x)) w:=by
 rw[run_callFunc_extern Tryz.func140 (by kernel_rfl) (by kernel_rfl) (by kernel_rfl) (e:=Extern.MathFloatBits.float64frombits) (by kernel_rfl)];rfl
theorem xA(x:Nat)(w:World)(hx:x<18446744073709551616):Calls Tryz.prog 192 #[.float .f64 x] w fun e w'=>e = .returned (.float .f64 (iu x))/\w'=w:=by
 have hb:∀w,(callFunc 138 #[.float .f64 x]).run Tryz.prog w = .ok (.value (.int .u64 x)) w:=jo x;have hf:∀w,(callFunc 140 #[.int .u64 (iu x:Int)]).run Tryz.prog w = .ok (.value (.float .f64 (iu x))) w:=qW (iu x);have ha:=Ht hx;go_enter Tryz.func192,Tryz.ntmps192
 go_wp2
 all_goals first|(go_ret;exact⟨rfl,rfl⟩)|skip
theorem qX(x:Nat)(w:World):Calls Tryz.prog 258 #[.float .f64 x] w fun e w'=>e = .returned (.bool (cz x x != some .eq))/\w'=w:=by
 go_enter Tryz.func258,Tryz.ntmps258
 go_wp2
 all_goals first|(go_ret;exact⟨rfl,rfl⟩)|skip
theorem jJ(x:Nat)(w:World)(hx:x<18446744073709551616):Calls Tryz.prog 189 #[.float .f64 x,.int .i64 0] w fun e w'=>e = .returned (.bool (cz (iu x) 9218868437227405311==some .gt))/\w'=w:=by
 go_enter Tryz.func189,Tryz.ntmps189
 go_wp2_with (go_at_call 192;refine(xA x _ hx).mono ?_;rintro e w1 ⟨rfl,rfl⟩)
 all_goals first|(go_ret;exact⟨rfl,rfl⟩)|skip
theorem V6(w:World):Calls Tryz.prog 261 #[.int .i64 (-1)] w fun e w'=>e = .returned (.float .f64 18442240474082181120)/\w'=w:=by
 have hf:∀w,(callFunc 140 #[.int .u64 18442240474082181120]).run Tryz.prog w = .ok (.value (.float .f64 18442240474082181120)) w:=qW 18442240474082181120;go_enter Tryz.func261,Tryz.ntmps261
 go_wp2
 all_goals first|(go_ret;exact⟨rfl,rfl⟩)|skip
theorem FC(w:World):Calls Tryz.prog 261 #[.int .i64 1] w fun e w'=>e = .returned (.float .f64 9218868437227405312)/\w'=w:=by
 have hf:∀w,(callFunc 140 #[.int .u64 9218868437227405312]).run Tryz.prog w = .ok (.value (.float .f64 9218868437227405312)) w:=qW 9218868437227405312;go_enter Tryz.func261,Tryz.ntmps261
 go_wp2
 all_goals first|(go_ret;exact⟨rfl,rfl⟩)|skip
end
section
open Go.RowKit Go
def CO(x:Nat):Nat:=x/9223372036854775808*9223372036854775808
theorem QA{x:Nat}(hx:x<18446744073709551616):bits .or .u64 (bits .andNot .u64 0 9223372036854775808) (bits .and .u64 (x:Int) 9223372036854775808)=(CO x:Int):=by
 have e0:bits .andNot .u64 0 9223372036854775808=((0:Nat):Int):=by decide
 have e1:=bits_and_u64_nat x 9223372036854775808 hx (by decide);rw[show(9223372036854775808:Int)=((9223372036854775808:Nat):Int)from rfl]at e0 ⊢;rw[e0,e1];have l1:x &&& 9223372036854775808<18446744073709551616:=Nat.lt_of_le_of_lt Nat.and_le_right (by decide);rw[bits_or_u64_nat 0 _ (by decide) l1,Nat.zero_or];have:x &&& 2 ^ 63=CO x:=by
   have hb:x.testBit 63=decide (x/2 ^ 63%2=1):=Nat.testBit_eq_decide_div_mod_eq;refine Nat.eq_of_testBit_eq fun i=>?_;rw[Nat.testBit_and,Nat.testBit_two_pow];unfold CO;by_cases hi:63=i;subst hi;rw[hb];rcases Nat.lt_or_ge x 9223372036854775808 with h|h;rw[show x/2 ^ 63=0 from Nat.div_eq_of_lt h];decide;have e:x/9223372036854775808=1:=by omega
   rw[show x/2 ^ 63=1 from e];decide;have e:x/9223372036854775808=0\/x/9223372036854775808=1:=by omega
   rw[decide_eq_false hi,Bool.and_false];rcases e with e|e;rw[e];simp;rw[e,show 1*9223372036854775808=2 ^ 63 from rfl,Nat.testBit_two_pow,decide_eq_false hi]
 exact congrArg _ this
theorem FD(x:Nat)(w:World)(hx:x<18446744073709551616):Calls Tryz.prog 260 #[.float .f64 0,.float .f64 x] w fun e w'=>e = .returned (.float .f64 (CO x))/\w'=w:=by
 have hb:∀w,(callFunc 138 #[.float .f64 x]).run Tryz.prog w = .ok (.value (.int .u64 x)) w:=jo x;have hz:∀w,(callFunc 138 #[.float .f64 0]).run Tryz.prog w = .ok (.value (.int .u64 0)) w:=jo 0;have hf:∀w,(callFunc 140 #[.int .u64 (CO x:Int)]).run Tryz.prog w = .ok (.value (.float .f64 (CO x))) w:=qW (CO x);have ha:=QA hx;go_enter Tryz.func260,Tryz.ntmps260
 go_wp2
 all_goals first|(go_ret;exact⟨rfl,rfl⟩)|skip
theorem zY(x:Nat)(w:World)(hx:x<18446744073709551616)(h:(cz (iu x) 4503599627370496==some .lt)=false):Calls Tryz.prog 259 #[.float .f64 x] w fun e w'=>e = .returned (.tuple #[.float .f64 x,.int .i64 0])/\w'=w:=by
 go_enter Tryz.func259,Tryz.ntmps259
 go_wp2_with (go_at_call 192;refine(xA x _ hx).mono ?_;rintro e w1 ⟨rfl,rfl⟩)
 all_goals first|(go_ret2;exact⟨rfl,rfl⟩)|skip
 all_goals simp_all
theorem zZ(x r:Nat)(w:World)(hx:x<18446744073709551616)(h:(cz (iu x) 4503599627370496==some .lt)=true)(hr:FloatKind.f64.format.mul x 4841369599423283200=some r):Calls Tryz.prog 259 #[.float .f64 x] w fun e w'=>e = .returned (.tuple #[.float .f64 r,.int .i64 (-52)])/\w'=w:=by
 have hm:∀w,(binOp .mul 180 (.float .f64 x) (.float .f64 4841369599423283200)).run Tryz.prog w = .ok (.float .f64 r) w:=fun w=>run_float_arith w .mul 180 .f64 x 4841369599423283200 r hr;go_enter Tryz.func259,Tryz.ntmps259
 go_wp2_with (go_at_call 192;refine(xA x _ hx).mono ?_;rintro e w1 ⟨rfl,rfl⟩)
 all_goals first|(go_ret2;exact⟨rfl,rfl⟩)|skip
 all_goals simp_all
end
section
open Go.RowKit Go
section
variable (x:Nat)(n:Int)(w:World)(hx:x<18446744073709551616)(iO:0<=n)(gn:n<=32)
theorem Jp(x:Nat)(n:Int)(w:World)(hx:x<18446744073709551616)(iO:0<=n)(gn:n<=32)(h:(cz x 0==some .eq)=true):Calls Tryz.prog 231 #[.float .f64 x,.int .i64 n] w fun e w'=>e = .returned (.float .f64 x)/\w'=w:=by
 go_enter Tryz.func231,Tryz.ntmps231
 go_wp2
 all_goals first|(go_ret;exact⟨rfl,rfl⟩)|skip
 all_goals simp_all
variable (y q:Nat)(e:Int)(hy:y<18446744073709551616)(he:e=0\/e = -52)(Ym:q<=2047)(hq:bits .and .i64 ((y:Int)/4503599627370496) 2047=(q:Int))(hN:∀w,Calls Tryz.prog 259 #[.float .f64 x] w fun z w'=>z = .returned (.tuple #[.float .f64 y,.int .i64 e])/\w'=w)
 (h0:(cz x 0==some .eq)=false) (h1:(cz (iu x) 9218868437227405311==some .gt)=false) (h2:(cz x x != some .eq)=false)
theorem Ni(x:Nat)(n:Int)(w:World)(hx:x<18446744073709551616)(iO:0<=n)(gn:n<=32)(y:Nat)(q:Nat)(e:Int)(hy:y<18446744073709551616)(he:e=0\/e = -52)(Ym:q<=2047)(hq:bits .and .i64 ((y:Int)/4503599627370496) 2047=(q:Int))(hN:∀w,Calls Tryz.prog 259 #[.float .f64 x] w fun z w'=>z = .returned (.tuple #[.float .f64 y,.int .i64 e])/\w'=w)(h0:(cz x 0==some .eq)=false)(h1:(cz (iu x) 9218868437227405311==some .gt)=false)(h2:(cz x x != some .eq)=false)(hE:n+e+(q-1023) < -1075):Calls Tryz.prog 231 #[.float .f64 x,.int .i64 n] w fun z w'=>z = .returned (.float .f64 (CO y))/\w'=w:=by
 have hb:∀w,(callFunc 138 #[.float .f64 y]).run Tryz.prog w = .ok (.value (.int .u64 y)) w:=jo y;go_enter Tryz.func231,Tryz.ntmps231
 go_wp2_with (first|(go_at_call 189;refine(jJ x _ hx).mono ?_;rintro z w1 ⟨rfl,rfl⟩)|(go_at_call 258;refine(qX x _).mono ?_;rintro z w1 ⟨rfl,rfl⟩)|(go_at_call 259;refine(hN _).mono ?_;rintro z w1 ⟨rfl,rfl⟩)|(go_at_call 260;refine(FD y _ hy).mono ?_;rintro z w1 ⟨rfl,rfl⟩))
 all_goals first|(go_ret;exact⟨rfl,rfl⟩)|skip
theorem Nj(x:Nat)(n:Int)(w:World)(hx:x<18446744073709551616)(iO:0<=n)(gn:n<=32)(y:Nat)(q:Nat)(e:Int)(hy:y<18446744073709551616)(he:e=0\/e = -52)(Ym:q<=2047)(hq:bits .and .i64 ((y:Int)/4503599627370496) 2047=(q:Int))(hN:∀w,Calls Tryz.prog 259 #[.float .f64 x] w fun z w'=>z = .returned (.tuple #[.float .f64 y,.int .i64 e])/\w'=w)(h0:(cz x 0==some .eq)=false)(h1:(cz (iu x) 9218868437227405311==some .gt)=false)(h2:(cz x x != some .eq)=false)(hE:1023<n+e+(q-1023))(hs:(cz y 0==some .lt)=true):Calls Tryz.prog 231 #[.float .f64 x,.int .i64 n] w fun z w'=>z = .returned (.float .f64 18442240474082181120)/\w'=w:=by
 have hb:∀w,(callFunc 138 #[.float .f64 y]).run Tryz.prog w = .ok (.value (.int .u64 y)) w:=jo y;go_enter Tryz.func231,Tryz.ntmps231
 go_wp2_with (first|(go_at_call 189;refine(jJ x _ hx).mono ?_;rintro z w1 ⟨rfl,rfl⟩)|(go_at_call 258;refine(qX x _).mono ?_;rintro z w1 ⟨rfl,rfl⟩)|(go_at_call 259;refine(hN _).mono ?_;rintro z w1 ⟨rfl,rfl⟩)|(go_at_call 261;refine(V6 _).mono ?_;rintro z w1 ⟨rfl,rfl⟩))
 all_goals first|(go_ret;exact⟨rfl,rfl⟩)|skip
theorem Nk(x:Nat)(n:Int)(w:World)(hx:x<18446744073709551616)(iO:0<=n)(gn:n<=32)(y:Nat)(q:Nat)(e:Int)(hy:y<18446744073709551616)(he:e=0\/e = -52)(Ym:q<=2047)(hq:bits .and .i64 ((y:Int)/4503599627370496) 2047=(q:Int))(hN:∀w,Calls Tryz.prog 259 #[.float .f64 x] w fun z w'=>z = .returned (.tuple #[.float .f64 y,.int .i64 e])/\w'=w)(h0:(cz x 0==some .eq)=false)(h1:(cz (iu x) 9218868437227405311==some .gt)=false)(h2:(cz x x != some .eq)=false)(hE:1023<n+e+(q-1023))(hs:(cz y 0==some .lt)=false):Calls Tryz.prog 231 #[.float .f64 x,.int .i64 n] w fun z w'=>z = .returned (.float .f64 9218868437227405312)/\w'=w:=by
 have hb:∀w,(callFunc 138 #[.float .f64 y]).run Tryz.prog w = .ok (.value (.int .u64 y)) w:=jo y;go_enter Tryz.func231,Tryz.ntmps231
 go_wp2_with (first|(go_at_call 189;refine(jJ x _ hx).mono ?_;rintro z w1 ⟨rfl,rfl⟩)|(go_at_call 258;refine(qX x _).mono ?_;rintro z w1 ⟨rfl,rfl⟩)|(go_at_call 259;refine(hN _).mono ?_;rintro z w1 ⟨rfl,rfl⟩)|(go_at_call 261;refine(FC _).mono ?_;rintro z w1 ⟨rfl,rfl⟩))
 all_goals first|(go_ret;exact⟨rfl,rfl⟩)|skip
theorem Nl(x:Nat)(n:Int)(w:World)(hx:x<18446744073709551616)(iO:0<=n)(gn:n<=32)(y:Nat)(q:Nat)(e:Int)(hy:y<18446744073709551616)(he:e=0\/e = -52)(Ym:q<=2047)(hq:bits .and .i64 ((y:Int)/4503599627370496) 2047=(q:Int))(hN:∀w,Calls Tryz.prog 259 #[.float .f64 x] w fun z w'=>z = .returned (.tuple #[.float .f64 y,.int .i64 e])/\w'=w)(h0:(cz x 0==some .eq)=false)(h1:(cz (iu x) 9218868437227405311==some .gt)=false)(h2:(cz x x != some .eq)=false)(k z r:Nat)(hE:n+e+(q-1023)+1023=k)(Uk:1<=k)(y9:k<=2046)(hz:bits .or .u64 (bits .andNot .u64 (y:Int) 9218868437227405312) ((k:Int)*4503599627370496)=(z:Int))(hr:FloatKind.f64.format.mul 4607182418800017408 z=some r) :
   Calls Tryz.prog 231 #[.float .f64 x,.int .i64 n] w fun z w'=>z = .returned (.float .f64 r)/\w'=w:=by
 have hb:∀w,(callFunc 138 #[.float .f64 y]).run Tryz.prog w = .ok (.value (.int .u64 y)) w:=jo y;have hf:∀w,(callFunc 140 #[.int .u64 (z:Int)]).run Tryz.prog w = .ok (.value (.float .f64 z)) w:=qW z;have hm:∀w,(binOp .mul 180 (.float .f64 4607182418800017408) (.float .f64 z)).run Tryz.prog w = .ok (.float .f64 r) w:=fun w=>run_float_arith w .mul 180 .f64 4607182418800017408 z r hr;have hw:IntKind.u64.wrap (n+e+(q-1023)+1023)=(k:Int):=by rw[hE,IntKind.wrap_u64];omega
 have hw2:IntKind.u64.wrap ((k:Int)*4503599627370496)=(k:Int)*4503599627370496:=by rw[IntKind.wrap_u64];omega
 go_enter Tryz.func231,Tryz.ntmps231
 go_wp2_with (first|(go_at_call 189;refine(jJ x _ hx).mono ?_;rintro z w1 ⟨rfl,rfl⟩)|(go_at_call 258;refine(qX x _).mono ?_;rintro z w1 ⟨rfl,rfl⟩)|(go_at_call 259;refine(hN _).mono ?_;rintro z w1 ⟨rfl,rfl⟩)|(go_at_call 261;refine(FC _).mono ?_;rintro z w1 ⟨rfl,rfl⟩))
 all_goals first|(go_ret;exact⟨rfl,rfl⟩)|skip
theorem Nn(x:Nat)(n:Int)(w:World)(hx:x<18446744073709551616)(iO:0<=n)(gn:n<=32)(y:Nat)(q:Nat)(e:Int)(hy:y<18446744073709551616)(he:e=0\/e = -52)(Ym:q<=2047)(hq:bits .and .i64 ((y:Int)/4503599627370496) 2047=(q:Int))(hN:∀w,Calls Tryz.prog 259 #[.float .f64 x] w fun z w'=>z = .returned (.tuple #[.float .f64 y,.int .i64 e])/\w'=w)(h0:(cz x 0==some .eq)=false)(h1:(cz (iu x) 9218868437227405311==some .gt)=false)(h2:(cz x x != some .eq)=false)(k z r:Nat)(hE:n+e+(q-1023)+53+1023=k)(Uk:1<=k)(y9:k<=53)(hz:bits .or .u64 (bits .andNot .u64 (y:Int) 9218868437227405312) ((k:Int)*4503599627370496)=(z:Int))(hr:FloatKind.f64.format.mul 4368491638549381120 z=some r) :
   Calls Tryz.prog 231 #[.float .f64 x,.int .i64 n] w fun z w'=>z = .returned (.float .f64 r)/\w'=w:=by
 have hb:∀w,(callFunc 138 #[.float .f64 y]).run Tryz.prog w = .ok (.value (.int .u64 y)) w:=jo y;have hf:∀w,(callFunc 140 #[.int .u64 (z:Int)]).run Tryz.prog w = .ok (.value (.float .f64 z)) w:=qW z;have hm:∀w,(binOp .mul 180 (.float .f64 4368491638549381120) (.float .f64 z)).run Tryz.prog w = .ok (.float .f64 r) w:=fun w=>run_float_arith w .mul 180 .f64 4368491638549381120 z r hr;have hw:IntKind.u64.wrap (n+e+(q-1023)+53+1023)=(k:Int):=by rw[hE,IntKind.wrap_u64];omega
 have hw2:IntKind.u64.wrap ((k:Int)*4503599627370496)=(k:Int)*4503599627370496:=by rw[IntKind.wrap_u64];omega
 go_enter Tryz.func231,Tryz.ntmps231
 go_wp2_with (first|(go_at_call 189;refine(jJ x _ hx).mono ?_;rintro z w1 ⟨rfl,rfl⟩)|(go_at_call 258;refine(qX x _).mono ?_;rintro z w1 ⟨rfl,rfl⟩)|(go_at_call 259;refine(hN _).mono ?_;rintro z w1 ⟨rfl,rfl⟩)|(go_at_call 261;refine(FC _).mono ?_;rintro z w1 ⟨rfl,rfl⟩))
 all_goals first|(go_ret;exact⟨rfl,rfl⟩)|skip
end
end
section
open Go.RowKit Go
section
variable (x:Nat)(n m:Int)(w:World)(hx:x<18446744073709551616)(iO:0<=n)(gn:n<=32)(ur:0<=m)(wE:m<=1099511627776)
theorem Np(x:Nat)(n:Int)(m:Int)(w:World)(hx:x<18446744073709551616)(iO:0<=n)(gn:n<=32)(ur:0<=m)(wE:m<=1099511627776)(h:(cz x x != some .eq)=true):Calls Tryz.prog 146 #[.float .f64 x,.int .i64 n,.int .i64 m] w fun e w'=>e = .returned (.tuple #[.int .i64 0,.int .i64 2])/\w'=w:=by
 go_enter Tryz.func146,Tryz.ntmps146
 go_wp2_with (go_at_call 189;refine(jJ x _ hx).mono ?_;rintro z w1 ⟨rfl,rfl⟩)
 all_goals first|(go_ret2;exact⟨rfl,rfl⟩)|skip
 all_goals simp_all
theorem Nq(x:Nat)(n:Int)(m:Int)(w:World)(hx:x<18446744073709551616)(iO:0<=n)(gn:n<=32)(ur:0<=m)(wE:m<=1099511627776)(h:(cz x x != some .eq)=false)(h1:(cz (iu x) 9218868437227405311==some .gt)=true):Calls Tryz.prog 146 #[.float .f64 x,.int .i64 n,.int .i64 m] w fun e w'=>e = .returned (.tuple #[.int .i64 0,.int .i64 3])/\w'=w:=by
 go_enter Tryz.func146,Tryz.ntmps146
 go_wp2_with (go_at_call 189;refine(jJ x _ hx).mono ?_;rintro z w1 ⟨rfl,rfl⟩)
 all_goals first|(go_ret2;exact⟨rfl,rfl⟩)|skip
 all_goals simp_all
variable (l nr f:Nat)(hl:l<18446744073709551616)(rf:nr<18446744073709551616)
 (h:(cz x x != some .eq)=false) (h1:(cz (iu x) 9218868437227405311==some .gt)=false)
 (hL:∀w,Calls Tryz.prog 231 #[.float .f64 x,.int .i64 n] w fun z w'=>z = .returned (.float .f64 l)/\w'=w)
 (hR:∀w,(callFunc 190 #[.float .f64 l]).run Tryz.prog w = .ok (.value (.float .f64 nr)) w)
theorem DM(x:Nat)(n:Int)(m:Int)(hx:x<18446744073709551616)(iO:0<=n)(gn:n<=32)(ur:0<=m)(wE:m<=1099511627776)(l:Nat)(nr:Nat)(hl:l<18446744073709551616)(rf:nr<18446744073709551616)(h:(cz x x != some .eq)=false)(h1:(cz (iu x) 9218868437227405311==some .gt)=false)(hL:∀w,Calls Tryz.prog 231 #[.float .f64 x,.int .i64 n] w fun z w'=>z = .returned (.float .f64 l)/\w'=w)(hR:∀w,(callFunc 190 #[.float .f64 l]).run Tryz.prog w = .ok (.value (.float .f64 nr)) w)(w:World):Calls Tryz.prog 191 #[.float .f64 x,.int .i64 n] w fun z w'=>z = .returned (.float .f64 l)/\w'=w:=by
 go_enter Tryz.func191,Tryz.ntmps191
 go_wp2_with (go_at_call 231;refine(hL _).mono ?_;rintro z w1 ⟨rfl,rfl⟩)
 all_goals first|(go_ret;exact⟨rfl,rfl⟩)|skip
theorem Hu(x:Nat)(n:Int)(m:Int)(w:World)(hx:x<18446744073709551616)(iO:0<=n)(gn:n<=32)(ur:0<=m)(wE:m<=1099511627776)(l:Nat)(nr:Nat)(hl:l<18446744073709551616)(rf:nr<18446744073709551616)(h:(cz x x != some .eq)=false)(h1:(cz (iu x) 9218868437227405311==some .gt)=false)(hL:∀w,Calls Tryz.prog 231 #[.float .f64 x,.int .i64 n] w fun z w'=>z = .returned (.float .f64 l)/\w'=w)(hR:∀w,(callFunc 190 #[.float .f64 l]).run Tryz.prog w = .ok (.value (.float .f64 nr)) w)(h4:(cz (iu nr) (floatOfInt .f64 m)==some .gt)=true):Calls Tryz.prog 146 #[.float .f64 x,.int .i64 n,.int .i64 m] w fun e w'=>e = .returned (.tuple #[.int .i64 0,.int .i64 4])/\w'=w:=by
 go_enter Tryz.func146,Tryz.ntmps146
 go_wp2_with (first|(go_at_call 189;refine(jJ x _ hx).mono ?_;rintro z w1 ⟨rfl,rfl⟩)|(go_at_call 191;refine(DM x n m hx iO gn ur wE l nr hl rf h h1 hL hR _).mono ?_;rintro z w1 ⟨rfl,rfl⟩)|(go_at_call 192;refine(xA nr _ rf).mono ?_;rintro z w1 ⟨rfl,rfl⟩))
 all_goals first|(go_ret2;exact⟨rfl,rfl⟩)|skip
theorem QB(x:Nat)(n:Int)(m:Int)(w:World)(hx:x<18446744073709551616)(iO:0<=n)(gn:n<=32)(ur:0<=m)(wE:m<=1099511627776)(l:Nat)(nr:Nat)(hl:l<18446744073709551616)(rf:nr<18446744073709551616)(h:(cz x x != some .eq)=false)(h1:(cz (iu x) 9218868437227405311==some .gt)=false)(hL:∀w,Calls Tryz.prog 231 #[.float .f64 x,.int .i64 n] w fun z w'=>z = .returned (.float .f64 l)/\w'=w)(hR:∀w,(callFunc 190 #[.float .f64 l]).run Tryz.prog w = .ok (.value (.float .f64 nr)) w)(v:Int)(h4:(cz (iu nr) (floatOfInt .f64 m)==some .gt)=false)(hv:floatToIntVal .f64 nr .i64=some v):Calls Tryz.prog 146 #[.float .f64 x,.int .i64 n,.int .i64 m] w fun e w'=>e = .returned (.tuple #[.int .i64 v,.int .i64 0])/\w'=w:=by
 have hc:∀w,(convert 180 3 (.float .f64 nr)).run Tryz.prog w = .ok (.int .i64 v) w:=fun w=>run_convert_float_int w 180 3 .f64 .i64 nr v (by kernel_rfl) (by kernel_rfl) hv;go_enter Tryz.func146,Tryz.ntmps146
 go_wp2_with (first|(go_at_call 189;refine(jJ x _ hx).mono ?_;rintro z w1 ⟨rfl,rfl⟩)|(go_at_call 191;refine(DM x n m hx iO gn ur wE l nr hl rf h h1 hL hR _).mono ?_;rintro z w1 ⟨rfl,rfl⟩)|(go_at_call 192;refine(xA nr _ rf).mono ?_;rintro z w1 ⟨rfl,rfl⟩))
 all_goals first|(go_ret2;exact⟨rfl,rfl⟩)|skip
end
end
section
open Go.RowKit Go Ieee
variable{x l:Nat}
def pQ(x:Nat):Prop:=x<18446744073709551616/\x%9223372036854775808<=9218868437227405312
theorem FE(s:Bool){r:Nat}(h:r<=9218868437227405312):pQ (double.word s r):=by
 have e1:double.signWeight=9223372036854775808:=by decide
 unfold pQ Format.word;rw[e1];cases s;simp only[Bool.false_eq_true,if_false];omega;simp only[if_true];omega
theorem Jq(s:Bool)(m:Nat)(p:Int):pQ (double.nearest s m p):=by
 have e3:double.infRung=9218868437227405312:=by decide
 unfold Format.nearest;split;exact FE s (by omega);exact FE s (by rw[e3];exact Nat.min_le_right _ _)
def isNum:Datum->Bool
 |.nan .. =>false
 |_=>true
theorem Hv{d:Datum}(h:isNum d=true):pQ (double.write d):=by
 have e3:double.infRung=9218868437227405312:=by decide
 cases d with
 |number s m p=>exact Jq s m p
 |infinity s=>exact FE s (by rw[e3];exact Nat.le_refl _)
 |nan s t=>cases h
theorem BC(h:pQ x):isNum (fp x)=true:=by
 obtain⟨_,h⟩:=h;unfold fp;split;rfl;split;rfl;split;rfl;omega
theorem K4(hx:x<18446744073709551616)(h:(cz x x != some .eq)=false):pQ x:=by
 refine⟨hx,?_⟩;rcases Nat.lt_or_ge 9218868437227405312 (x%9223372036854775808)with h1|h1;exfalso;rw[BD]at h;unfold fp at h;rw[if_neg (by omega),if_neg (by omega),if_neg (by omega)]at h;exact absurd h (by simp[Datum.order]);exact h1
def pR:Datum->Bool
 |.number .. =>true
 |_=>false
theorem Hw{a b:Datum}(ha:pR a=true)(hb:pR b=true):∃d,a.product b=some d/\isNum d=true:=by
 cases a<;>cases b<;>simp[pR]at ha hb;exact⟨_,rfl,rfl⟩
theorem aaB{y:Nat}(hx:pR (fp x)=true)(hy:pR (fp y)=true):∃r,FloatKind.f64.format.mul x y=some r/\pQ r:=by
 obtain⟨d,h1,h2⟩:=Hw hx hy;refine⟨double.write d,?_,Hv h2⟩;show((FloatKind.f64.format.read x).product (FloatKind.f64.format.read y)).map _=_;rw[uM,uM,h1];rfl
theorem QC(h:x%9223372036854775808<9218868437227405312):pR (fp x)=true:=by
 unfold fp;split;rfl;rfl
def ue(l:Nat):Nat:=double.write ((fp l).integral .even)
theorem Hx(h:pQ l):pQ (ue l):=by
 have h1:=BC h;refine Hv ?_;generalize fp l=d at *;cases d with
 |number s m p=>rfl
 |infinity s=>rfl
 |nan s t=>cases h1
theorem FF(h:pQ l):Extern.MathFloor.toIntegral "math.RoundToEven" .even #[.float .f64 l]=pure (.float .f64 (ue l)):=by
 have h1:=BC h;have h2:FloatKind.f64.decode l=fp l:=uM l
 conv=>lhs;unfold Extern.MathFloor.toIntegral;whnf
 rw[h2];unfold ue;generalize fp l=d at *;cases d with
 |number s m p=>rfl
 |infinity s=>rfl
 |nan s t=>cases h1
theorem Nr(h:pQ l)(w:World):(callFunc 190 #[.float .f64 l]).run PP w = .ok (.value (.float .f64 (ue l))) w:=by
 rw[run_callFunc_extern Tryz.func190 (by kernel_rfl) (by kernel_rfl) (by kernel_rfl) (e:=Extern.MathFloor.toIntegral "math.RoundToEven" .even) (by kernel_rfl),FF h];rfl
end
section
open Go.RowKit Go Ieee
variable{y x k:Nat}
def kt(y k:Nat):Nat:=y/9223372036854775808*9223372036854775808+y%4503599627370496+k*4503599627370496
theorem FG(hy:y<18446744073709551616):bits .andNot .u64 (y:Int) 9218868437227405312=(kt y 0:Int):=by
 have h1:(BitVec.ofInt 64 (y:Int)).toNat=y:=by
   rw[BitVec.ofInt_natCast,BitVec.toNat_ofNat];exact Nat.mod_eq_of_lt (by omega)
 show IntKind.u64.wrap ((BitVec.ofInt 64 (y:Int) &&& ~~~ BitVec.ofInt 64 9218868437227405312).toNat:Int)=_;have h2:(~~~ BitVec.ofInt 64 9218868437227405312).toNat=9227875636482146303:=by decide
 have h3:y &&& 9227875636482146303=kt y 0:=by
   refine Nat.eq_of_testBit_eq fun i=>?_;have e1:kt y 0=2 ^ 52*(2048*(y/9223372036854775808))+y%2 ^ 52:=by unfold kt;omega
   have e2:(9227875636482146303:Nat)=2 ^ 52*(2 ^ 11*1+0)+(2 ^ 52-1):=by decide
   have e3:2048*(y/9223372036854775808)=2 ^ 11*(y/9223372036854775808)+0:=by omega
   rw[e1,e2,Nat.testBit_and,Nat.testBit_two_pow_mul_add _ (by omega),Nat.testBit_two_pow_mul_add _ (Nat.mod_lt _ (by decide)),Nat.testBit_mod_two_pow,Nat.testBit_two_pow_sub_one,e3,Nat.testBit_two_pow_mul_add _ (by omega),Nat.testBit_two_pow_mul_add _ (by omega)];by_cases hi:i<52;simp[hi];simp only[hi,if_false];by_cases hj:i-52<11;simp[hj];simp only[hj,if_false];have:y/9223372036854775808<2:=by omega
   have e4:y.testBit i=(y/9223372036854775808).testBit (i-52-11):=by
     rw[show(9223372036854775808:Nat)=2 ^ 63 from rfl,Nat.testBit_div_two_pow];congr 1;omega
   rw[e4];have hv:y/9223372036854775808=0\/y/9223372036854775808=1:=by omega
   rcases hv with e|e<;>rw[e]<;>simp
 rw[BitVec.toNat_and,h1,h2,h3,IntKind.wrap_u64];unfold kt;omega
theorem Hy(hy:y<18446744073709551616)(hk:k<2048):bits .or .u64 (bits .andNot .u64 (y:Int) 9218868437227405312) ((k:Int)*4503599627370496)=(kt y k:Int):=by
 rw[FG hy,show((k:Int)*4503599627370496)=((k*4503599627370496:Nat):Int)by omega,bits_or_u64_nat _ _ (by unfold kt;omega) (by omega)];congr 1;refine Nat.eq_of_testBit_eq fun i=>?_;have e1:kt y k=2 ^ 52*(2 ^ 11*(y/9223372036854775808)+k)+y%2 ^ 52:=by unfold kt;omega
 have e0:kt y 0=2 ^ 52*(2 ^ 11*(y/9223372036854775808)+0)+y%2 ^ 52:=by unfold kt;omega
 have e2:k*4503599627370496=2 ^ 52*k+0:=by omega
 have hm:y%2 ^ 52<2 ^ 52:=Nat.mod_lt _ (by decide);have t0:=Nat.testBit_two_pow_mul_add (2 ^ 11*(y/9223372036854775808)+0) hm i;have t1:=Nat.testBit_two_pow_mul_add (2 ^ 11*(y/9223372036854775808)+k) hm i;have t2:=Nat.testBit_two_pow_mul_add k (show 0<2 ^ 52 by decide) i;rw[e1,e0,e2,Nat.testBit_or,t0,t1,t2];by_cases hi:i<52;simp[hi];rw[if_neg hi,if_neg hi,if_neg hi];have s0:=Nat.testBit_two_pow_mul_add (y/9223372036854775808) (show 0<2 ^ 11 by decide) (i-52);have s1:=Nat.testBit_two_pow_mul_add (y/9223372036854775808) (show k<2 ^ 11 by omega) (i-52);rw[s0,s1];by_cases hj:i-52<11;simp[hj];have:k.testBit (i-52)=false:=Nat.testBit_lt_two_pow (Nat.lt_of_lt_of_le (show k<2 ^ 11 by omega) (Nat.pow_le_pow_right (by omega) (by omega)));simp[hj,this]
theorem DN(hk:k<=2046):pR (fp (kt y k))=true:=QC (by unfold kt;omega)
theorem QD(hy:y<18446744073709551616):bits .and .i64 ((y:Int)/4503599627370496) 2047=((y/4503599627370496%2048:Nat):Int):=by
 have V7:(BitVec.ofInt 64 2047).toNat=2 ^ 11-1:=by decide
 have key:(BitVec.ofInt 64 ((y:Int)/4503599627370496) &&& BitVec.ofInt 64 2047).toNat=(((y:Int)/4503599627370496)%((2 ^ 64:Nat):Int)).toNat%2 ^ 11:=by
   rw[BitVec.toNat_and,BitVec.toNat_ofInt,V7,Nat.and_two_pow_sub_one_eq_mod]
 show IntKind.i64.wrap ((BitVec.ofInt 64 ((y:Int)/4503599627370496) &&& BitVec.ofInt 64 2047).toNat:Nat)=_;rw[key,IntKind.wrap_i64];omega
def mulN(x y:Nat):Nat:=(FloatKind.f64.format.mul x y).getD 0
theorem FH(hx:pR (fp x)=true)(hy:pR (fp y)=true):FloatKind.f64.format.mul x y=some (mulN x y)/\pQ (mulN x y):=by
 obtain⟨r,h1,h2⟩:=aaB hx hy;unfold mulN;rw[h1];exact⟨rfl,h2⟩
theorem V8(hx:x<18446744073709551616)(h1:(cz (iu x) 9218868437227405311==some .gt)=false)(h2:(cz x x != some .eq)=false):pR (fp x)=true:=by
 have h:=K4 hx h2;refine QC ?_;have:=h.2;rcases Nat.lt_or_ge (x%9223372036854775808) 9218868437227405312 with h3|h3;exact h3;exfalso;have e:iu x=9218868437227405312:=by unfold iu;omega
 rw[e]at h1;exact absurd h1 (by decide)
def pT(x:Nat):Nat×Int:=if(cz (iu x) 4503599627370496==some .lt)=true then(mulN x 4841369599423283200,-52)else(x,0)
def ldE(x:Nat)(n:Int):Int:=n+(pT x).2+(((pT x).1/4503599627370496%2048:Nat)-1023)
def ldN(x:Nat)(n:Int):Nat:=
 if(cz x 0==some .eq)=true then x
 else if ldE x n < -1075 then CO (pT x).1
 else if 1023<ldE x n then(if(cz (pT x).1 0==some .lt)=true then 18442240474082181120 else 9218868437227405312)
 else if -1022<=ldE x n then mulN 4607182418800017408 (kt (pT x).1 (ldE x n+1023).toNat)
 else mulN 4368491638549381120 (kt (pT x).1 (ldE x n+53+1023).toNat)
theorem QE(hx:x<18446744073709551616)(hf:pR (fp x)=true):(pT x).1<18446744073709551616/\((pT x).2=0\/(pT x).2 = -52)/\∀w,Calls PP 259 #[.float .f64 x] w fun z w'=>z = .returned (.tuple #[.float .f64 (pT x).1,.int .i64 (pT x).2])/\w'=w:=by
 unfold pT;by_cases h:(cz (iu x) 4503599627370496==some .lt)=true;obtain⟨h1,h2⟩:=FH hf (show pR (fp 4841369599423283200)=true by decide);rw[if_pos h];exact⟨h2.1,.inr rfl,fun w=>zZ x _ w hx h h1⟩;rw[if_neg h];exact⟨hx,.inl rfl,fun w=>zY x w hx (Bool.eq_false_iff.2 h)⟩
theorem QF(x:Nat)(n:Int)(hx:x<18446744073709551616)(iO:0<=n)(gn:n<=32)(h1:(cz (iu x) 9218868437227405311==some .gt)=false)(h2:(cz x x != some .eq)=false) :
   pQ (ldN x n)/\∀w,Calls PP 231 #[.float .f64 x,.int .i64 n] w fun z w'=>z = .returned (.float .f64 (ldN x n))/\w'=w:=by
 have hf:=V8 hx h1 h2;unfold ldN;by_cases h0:(cz x 0==some .eq)=true;rw[if_pos h0];exact⟨K4 hx h2,fun w=>Jp x n w hx iO gn h0⟩;rw[if_neg h0];have h0:=Bool.eq_false_iff.2 h0;obtain⟨hy,he,hN⟩:=QE hx hf;have hq:=QD hy;unfold ldE;generalize(pT x).1=y at *;generalize(pT x).2=e at *;have H9:y/4503599627370496%2048<=2047:=by omega
 generalize hqe:y/4503599627370496%2048=q at *;have L:=fun(w:World)=>@Ni x n w hx iO gn y q e hy he H9 hq hN h0 h1 h2;by_cases c1:n+e+((q:Int)-1023) < -1075;rw[if_pos c1];refine⟨⟨?_,?_⟩,fun w=>L w c1⟩<;>unfold CO<;>omega;rw[if_neg c1];by_cases c2:1023<n+e+((q:Int)-1023);rw[if_pos c2];by_cases c3:(cz y 0==some .lt)=true;rw[if_pos c3];exact⟨⟨by decide,by decide⟩,fun w=>@Nj x n w hx iO gn y q e hy he H9 hq hN h0 h1 h2 c2 c3⟩;rw[if_neg c3];exact⟨⟨by decide,by decide⟩,fun w=>@Nk x n w hx iO gn y q e hy he H9 hq hN h0 h1 h2 c2 (Bool.eq_false_iff.2 c3)⟩;rw[if_neg c2];by_cases c4: -1022<=n+e+((q:Int)-1023);rw[if_pos c4];obtain⟨k,hk⟩:∃k:Nat,n+e+((q:Int)-1023)+1023=k:=⟨(n+e+((q:Int)-1023)+1023).toNat,by omega⟩;rw[hk,Int.toNat_natCast];have hz:=Hy hy (show k<2048 by omega);obtain⟨hr,Ux⟩:=FH (show pR (fp 4607182418800017408)=true by decide) (DN (y:=y) (show k<=2046 by omega));exact⟨Ux,fun w=>@Nl x n w hx iO gn y q e hy he H9 hq hN h0 h1 h2 k _ _ hk (by omega) (by omega) hz hr⟩;rw[if_neg c4];obtain⟨k,hk⟩:∃k:Nat,n+e+((q:Int)-1023)+53+1023=k:=⟨(n+e+((q:Int)-1023)+53+1023).toNat,by omega⟩;rw[hk,Int.toNat_natCast];have hz:=Hy hy (show k<2048 by omega);obtain⟨hr,Ux⟩:=FH (show pR (fp 4368491638549381120)=true by decide) (DN (y:=y) (show k<=2046 by omega));exact⟨Ux,fun w=>@Nn x n w hx iO gn y q e hy he H9 hq hN h0 h1 h2 k _ _ hk (by omega) (by omega) hz hr⟩
end
section
open Go.RowKit Go Ieee
theorem Jr(r:Nat):double.word false r=r:=rfl
theorem Js{d b:Nat}(hd:d<=1074)(mv:4503599627370496<=b)(yb:b<9007199254740992):fp (d*4503599627370496+b) = .number false b (-1074+(d:Int)):=by
 have h1:(d*4503599627370496+b)%9223372036854775808=d*4503599627370496+b:=Nat.mod_eq_of_lt (by omega);have h2:(d*4503599627370496+b)/9223372036854775808=0:=Nat.div_eq_of_lt (by omega);have h3:(d*4503599627370496+b)%4503599627370496=b-4503599627370496:=by omega
 have h4:(d*4503599627370496+b)/4503599627370496=d+1:=by omega
 unfold fp;rw[h1,h2,if_neg (by omega),if_pos (by omega),h3,h4,Nat.add_sub_cancel,show 4503599627370496+(b-4503599627370496)=b by omega];rfl
theorem QG(k:Nat):Toward.even.cut false k 0=k:=by
 unfold Toward.cut;simp[Nat.mod_one]
theorem Jt{m L u:Nat}(h0:m≠0)(hL:m.log2=L)(hu:L+u=52):double.nearest false m 0=min ((1074-u)*4503599627370496+m*2 ^ u) 9218868437227405312:=by
 have e2:double.binade=4503599627370496:=by decide
 have e3:double.infRung=9218868437227405312:=by decide
 have e4:double.leastPlace = -1074:=by decide
 have e5:(double.fractionBits:Int)=52:=by decide
 have adJ:max ((0:Int)+L-52) (-1074) = -(u:Int):=by omega
 unfold Format.nearest;rw[if_neg h0,Jr];simp only[hL,e2,e3,e4,e5,adJ];have F9:((0:Int) - -(u:Int)).toNat=u:=by omega
 have MA:(-(u:Int)-0).toNat=0:=by omega
 have ht:(-(u:Int) - -1074).toNat=1074-u:=by omega
 rw[F9,MA,ht,QG,Nat.shiftLeft_eq]
theorem Hz{m L u:Nat}(h0:m≠0)(hL:m.log2=L)(hu:L+u=52):4503599627370496<=m*2 ^ u/\m*2 ^ u<9007199254740992:=by
 have C6:2 ^ L<=m:=by rw[<- hL];exact Nat.log2_self_le h0
 have Ax:m<2 ^ (L+1):=by rw[<- hL];exact Nat.lt_log2_self
 have h1:2 ^ L*2 ^ u<=m*2 ^ u:=Nat.mul_le_mul_right _ C6;have h2:m*2 ^ u<2 ^ (L+1)*2 ^ u:=Nat.mul_lt_mul_of_pos_right Ax (Nat.two_pow_pos u);rw[<- Nat.pow_add,hu]at h1;rw[<- Nat.pow_add,show L+1+u=53 by omega]at h2;exact⟨h1,h2⟩
theorem of_int(m:Nat):floatOfInt .f64 (m:Int)=double.nearest false m 0:=by
 show double.nearest (decide ((m:Int)<0)) (m:Int).natAbs 0=_;rw[decide_eq_false (by omega),Int.natAbs_natCast]
theorem aaC{m:Nat}(hm:m<9007199254740992):∃(b:Nat) (u:Nat),fp (floatOfInt .f64 (m:Int)) = .number false b (-(u:Int))/\b=m*2 ^ u:=by
 rw[of_int];rcases Nat.eq_zero_or_pos m with h0|h0;subst h0;obtain⟨u,hu⟩:∃u:Nat,u=1074:=⟨_,rfl⟩;exact⟨0,u,by subst hu;decide,(Nat.zero_mul _).symm⟩;have hl3:m.log2<53:=(Nat.log2_lt (by omega)).2 hm;obtain⟨u,hu⟩:∃u:Nat,m.log2+u=52:=⟨52-m.log2,by omega⟩;obtain⟨h1,h2⟩:=Hz (by omega) rfl hu;rw[Jt (by omega) rfl hu];have hd:1074-u<=1074:=Nat.sub_le ..;have hd2:(1074-u:Nat)=1074-(u:Int):=by omega
 generalize 1074-u=d at *;refine⟨m*2 ^ u,u,?_,rfl⟩;generalize m*2 ^ u=b at *;rw[Nat.min_eq_left (by omega),Js hd h1 h2];congr 1;omega
theorem QH(x:Nat):fp (iu x)=match fp x with
   |.number _ m p=>.number false m p
   |.infinity _=>.infinity false
   |.nan _ t=>.nan false t:=by
 have h1:iu x%9223372036854775808=x%9223372036854775808:=by unfold iu;omega
 have h2:iu x/9223372036854775808=0:=by unfold iu;omega
 unfold fp;rw[h1,h2];split;rfl;split;rfl;split<;>rfl
theorem aaD{a b:Nat}(h:(some (compare (signed false a 0) (signed false b 0))==some Ordering.gt)=false):a<=b:=by
 rcases Nat.lt_or_ge b a with h1|h1;exfalso;have:compare (signed false a 0) (signed false b 0) = .gt:=by
   rw[iD,iD,Nat.shiftLeft_zero,Nat.shiftLeft_zero];exact Int.compare_eq_gt.2 (by omega)
 rw[this]at h;exact absurd h (by decide);exact h1
theorem DO(a u:Nat):signed false a u=signed false (a*2 ^ u) 0:=by
 rw[iD,iD,Nat.shiftLeft_zero,Nat.shiftLeft_eq]
theorem aaE{a m u:Nat}{p:Int}(h:(Datum.order (.number false a p) (.number false (m*2 ^ u) (-(u:Int)))==some Ordering.gt)=false)(s:Bool):Toward.zero.cut s (a <<< p.toNat) (-p).toNat<=m:=by
 have hk:∀n d,Toward.zero.cut s n d=n/2 ^ (min d (n.log2+2)):=by
   intro n d;unfold Toward.cut;simp only[Bool.toNat_false,Nat.add_zero,Nat.shiftLeft_eq,Nat.one_mul]
 rw[hk,Nat.shiftLeft_eq];simp only[Datum.order]at h;rw[DO,DO (m*2 ^ u)]at h;have h:=aaD h;by_cases hp:0<=p;obtain⟨i,rfl⟩:∃i:Nat,p=i:=⟨p.toNat,by omega⟩;have e1:((i:Int)-min (i:Int) (-(u:Int))).toNat=i+u:=by omega
 have e2:(-(u:Int)-min (i:Int) (-(u:Int))).toNat=0:=by omega
 rw[e1,e2,Nat.pow_zero,Nat.mul_one,Nat.pow_add,<- Nat.mul_assoc]at h;have e3:(-(i:Int)).toNat=0:=by omega
 rw[e3,Nat.zero_min,Nat.pow_zero,Nat.div_one,Int.toNat_natCast];exact Nat.le_of_mul_le_mul_right h (Nat.two_pow_pos _);obtain⟨i,rfl⟩:∃i:Nat,p = -(i:Int):=⟨(-p).toNat,by omega⟩;have e3:(-(i:Int)).toNat=0:=by omega
 have e4:(- -(i:Int)).toNat=i:=by omega
 rw[e3,e4,Nat.pow_zero,Nat.mul_one];have hle:a<=m*2 ^ i:=by
   rcases Nat.le_total i u with hiu|hiu;have e1:(-(i:Int)-min (-(i:Int)) (-(u:Int))).toNat=u-i:=by omega
   have e2:(-(u:Int)-min (-(i:Int)) (-(u:Int))).toNat=0:=by omega
   rw[e1,e2,Nat.pow_zero,Nat.mul_one]at h;have e5:m*2 ^ u=(m*2 ^ i)*2 ^ (u-i):=by
     rw[Nat.mul_assoc,<- Nat.pow_add];congr 2;omega
   rw[e5]at h;exact Nat.le_of_mul_le_mul_right h (Nat.two_pow_pos _);have e1:(-(i:Int)-min (-(i:Int)) (-(u:Int))).toNat=0:=by omega
   have e2:(-(u:Int)-min (-(i:Int)) (-(u:Int))).toNat=i-u:=by omega
   rw[e1,e2,Nat.pow_zero,Nat.mul_one,Nat.mul_assoc,<- Nat.pow_add,show u+(i-u)=i by omega]at h;exact h
 rcases Nat.le_total i (a.log2+2)with hi|hi;rw[Nat.min_eq_left hi];exact Nat.div_le_of_le_mul (by rw[Nat.mul_comm];exact hle);rw[Nat.min_eq_right hi];have h1:a<2 ^ (a.log2+1):=Nat.lt_log2_self;have h2:2 ^ (a.log2+1)<=2 ^ (a.log2+2):=Nat.pow_le_pow_right (by omega) (by omega);rw[Nat.div_eq_of_lt (by omega)];exact Nat.zero_le _
def QI(x:Nat):Int:=((fp x).toInt .zero).getD 0
theorem QJ{nr m:Nat}(h0:pQ nr)(hm:m<=1099511627776)(h:(cz (iu nr) (floatOfInt .f64 (m:Int))==some .gt)=false) :
   floatToIntVal .f64 nr .i64=some (QI nr)/\-(m:Int)<=QI nr/\QI nr<=m:=by
 obtain⟨b,u,hb,rfl⟩:=aaC (m:=m) (by omega);rw[BD,hb,QH]at h;have h1:=BC h0;have hd:FloatKind.f64.decode nr=fp nr:=uM nr;unfold floatToIntVal;rw[hd];unfold QI;have G7:IntKind.i64.min = -9223372036854775808:=by decide
 have aaF:IntKind.i64.max=9223372036854775807:=by decide
 generalize fp nr=d at *;cases d with
 | number s a p=>
   have hc:=aaE h s;simp only[Datum.toInt,Datum.integral];generalize Toward.zero.cut s (a <<< p.toNat) (-p).toNat=k at *;have hv:signed s k 0=k\/signed s k 0 = -(k:Int):=by
     cases s;left;rw[iD,Nat.shiftLeft_zero];right;rw[zx,Nat.shiftLeft_zero]
   generalize signed s k 0=v at *;rw[G7,aaF,if_pos (by omega)];refine⟨rfl,?_⟩;show -(m:Int)<=v/\v<=m;omega
 |infinity s=>exact absurd h (by simp[Datum.order])
 |nan s t=>cases h1
end
section
open Go.Sx Go.RowKit Go
def jr(x top:Nat):Int×Int:=
 if(cz x x != some .eq)=true then(0,2)
 else if(cz x 0==some .lt||cz x 0==some .eq)=true then(0,0)
 else if(cz x 4607182418800017408==some .gt||cz x 4607182418800017408==some .eq)=true then(top,0)
 else if 128<=1075-x/4503599627370496 then(0,0)
 else(((vB x*top/2 ^ (1075-x/4503599627370496):Nat):Int),0)
theorem T0(x top:Nat)(w:World)(hx:x<18446744073709551616)(h0:top<=16777216):Calls PP 87 #[.float .f64 x,.int .i64 top] w fun e w'=>e = .returned (.tuple #[.int .i64 (jr x top).1,.int .i64 (jr x top).2])/\w'=w:=by
 unfold jr;by_cases h1:(cz x x != some .eq)=true;rw[if_pos h1];exact TW x top w hx h0 h1;rw[if_neg h1];have h1:=zP.2 h1;by_cases h2:(cz x 0==some .lt||cz x 0==some .eq)=true;rw[if_pos h2];exact TX x top w hx h0 h1 h2;rw[if_neg h2];have h2:=zP.2 h2;by_cases h3:(cz x 4607182418800017408==some .gt||cz x 4607182418800017408==some .eq)=true;rw[if_pos h3];exact NQ x top w hx h0 h1 h2 h3;rw[if_neg h3];have h3:=zP.2 h3;have hq:=B7 hx h1 h2 h3;by_cases h4:128<=1075-x/4503599627370496;rw[if_pos h4];exact NR x top w hx h0 h1 h2 h3 (1075-x/4503599627370496) (by omega) h4;rw[if_neg h4];rcases oH (1075-x/4503599627370496) 64 with h5|h5;exact TY x top w hx h0 h1 h2 h3 (1075-x/4503599627370496) (by omega) (by omega) (by omega);exact TZ x top w hx h0 h1 h2 h3 (1075-x/4503599627370496) (by omega) h5 (by omega)
theorem Xr{x top:Nat}(hx:x<18446744073709551616)(h0:top<=16777216):(0<=(jr x top).1/\(jr x top).1<=top)/\0<=(jr x top).2/\(jr x top).2<=12:=by
 unfold jr;split;simp;split;simp;split;simp;rename_i h1 h2 h3;have hq:=B7 hx (zP.2 h1) (zP.2 h2) (zP.2 h3);split;simp;refine⟨⟨Int.natCast_nonneg _,?_⟩,by simp,by simp⟩;have h:vB x*top/2 ^ (1075-x/4503599627370496)<=top:=by
   refine Nat.div_le_of_le_mul ?_;have hf:=xG x;have hp:2 ^ 53<=2 ^ (1075-x/4503599627370496):=Nat.pow_le_pow_right (by omega) (by omega);exact x9 _ (lN (Nat.le_of_lt hf) hp)
 exact Int.ofNat_le.2 h
def Xs:List DV->Option (List DV)
 | [.i x,.i top]=>if N7 x&&(decide (0<=top)&&decide (top<=16777216))then some [.i (jr x.toNat top.toNat).1,.i (jr x.toNat top.toNat).2]else none
 |_=>none
theorem af2{Wd:World->Prop}:Has PP Wd 87 (FA Xo Xs):=by
 unfold Has;refine .inl ⟨fun w args=>eI Tryz.func87 rfl rfl w args,fun w vs ds hw ha hp=>?_⟩;obtain⟨rs,_,hx⟩:=hp;obtain⟨b9,rfl,hf⟩:=ha;unfold Xs at hx;split at hx;rename_i x top;split at hx;rename_i hc;cases hx;have xh:=hc;simp only[ao,aO]at xh
 match b9,hf with
 | [a,b],hf=>
   obtain⟨ha,hb,_⟩:=hf;simp only[lq]at ha hb;subst ha;subst hb;obtain⟨m,rfl,hm⟩:=wv xh.1;obtain⟨n,rfl⟩:∃n:Nat,top=n:=⟨top.toNat,by omega⟩;refine(T0 m n w hm (by omega)).mono ?_;rintro e w' ⟨rfl,rfl⟩;refine⟨[.int .i64 (jr m n).1,.int .i64 (jr m n).2],[.i (jr m n).1,.i (jr m n).2],rfl,Below.refl _ _,⟨rfl,rfl,trivial⟩,FB,?_⟩;show Xs _=_;simp only[Xs,hc,if_true,pz]
 cases hx;cases hx
variable {X:bY}
theorem anm:mN PP lK 87=none:=by kernel_rfl
theorem k87:kc 87=⟨[.i 0 18446744073709551615,.i 0 16777216],[],[.i 0 16777216,.i 0 12],[.le (rr 0) (.v 1)]⟩:=by kernel_rfl
theorem g87(hX:X 87=Xs):ng (mN PP lK) X 87 (kc 87).il (kc 87).iK:=by
 rw[k87];rintro ds ⟨ha,_⟩
 match ds,ha with
 | [.i x,.i top],ha=>
   have hx:0<=x/\x<=18446744073709551615:=ha.1;have ht:0<=top/\top<=16777216:=ha.2.1;obtain⟨⟨u0,u1⟩,u2,u3⟩:=Xr (x:=x.toNat) (top:=top.toNat) (by omega) (by omega);refine⟨[.i (jr x.toNat top.toNat).1,.i (jr x.toNat top.toNat).2],jG anm ?_,⟨⟨u0,by omega⟩,⟨u2,u3⟩,trivial⟩,fun p hp=>?_⟩;rw[hX];simp only[Xs,sc hx,Bool.true_and];rw[if_pos];simp only[ao,aO];exact ht;obtain rfl:p = .le (rr 0) (.v 1):=by simpa using hp
   have q0:gD [.i x,.i top] [.i (jr x.toNat top.toNat).1,.i (jr x.toNat top.toNat).2] R0 = .i (jr x.toNat top.toNat).1:=by
     have:=aF.eL (ae:=a8.au 0 [DV.i x,DV.i top]) (k:=R0) (ds:=[DV.i (jr x.toNat top.toNat).1,DV.i (jr x.toNat top.toNat).2]) (i:=0) rfl;exact this
   have q1:gD [.i x,.i top] [.i (jr x.toNat top.toNat).1,.i (jr x.toNat top.toNat).2] 1 = .i top:=by
     rw[gD,aF.aT (by unfold R0;omega)];exact aF.eL (ae:=a8) (k:=0) (ds:=[DV.i x,DV.i top]) (i:=1) rfl
   simp only[BE.af,IE.af,rr,iy,q0,q1,DV.int,aO];omega
end
section
open Go.Sx Go.RowKit Go
def gh(x:Nat)(n m:Int):Int×Int:=
 if(cz x x != some .eq)=true then(0,2)
 else if(cz (iu x) 9218868437227405311==some .gt)=true then(0,3)
 else if(cz (iu (ue (ldN x n))) (floatOfInt .f64 m)==some .gt)=true then(0,4)
 else(QI (ue (ldN x n)),0)
theorem Ns(x:Nat)(n m:Int)(w:World)(hx:x<18446744073709551616)(iO:0<=n)(gn:n<=32)(ur:0<=m)(wE:m<=1099511627776):Calls PP 146 #[.float .f64 x,.int .i64 n,.int .i64 m] w fun e w'=>e = .returned (.tuple #[.int .i64 (gh x n m).1,.int .i64 (gh x n m).2])/\w'=w:=by
 unfold gh;by_cases h1:(cz x x != some .eq)=true;rw[if_pos h1];exact Np x n m w hx iO gn ur wE h1;rw[if_neg h1];have h1:=zP.2 h1;by_cases h2:(cz (iu x) 9218868437227405311==some .gt)=true;rw[if_pos h2];exact Nq x n m w hx iO gn ur wE h1 h2;rw[if_neg h2];have h2:=zP.2 h2;obtain⟨hl,hL⟩:=QF x n hx iO gn h2 h1;have hr:=Hx hl;have hR:=fun w=>Nr hl w;by_cases h3:(cz (iu (ue (ldN x n))) (floatOfInt .f64 m)==some .gt)=true;rw[if_pos h3];exact Hu x n m w hx iO gn ur wE _ _ hl.1 hr.1 h1 h2 hL hR h3;rw[if_neg h3];have h3:=zP.2 h3;obtain⟨k,rfl⟩:∃k:Nat,m=k:=⟨m.toNat,by omega⟩;obtain⟨hv,_⟩:=QJ hr (by omega) h3;exact QB x n k w hx iO gn ur wE _ _ hl.1 hr.1 h1 h2 hL hR _ h3 hv
theorem QK{x:Nat}{n m:Int}(hx:x<18446744073709551616)(iO:0<=n)(gn:n<=32)(ur:0<=m)(wE:m<=1099511627776):(-m<=(gh x n m).1/\(gh x n m).1<=m)/\0<=(gh x n m).2/\(gh x n m).2<=12:=by
 unfold gh;by_cases h1:(cz x x != some .eq)=true;rw[if_pos h1];exact⟨⟨by omega,ur⟩,by decide,by decide⟩;rw[if_neg h1];have h1:=zP.2 h1;by_cases h2:(cz (iu x) 9218868437227405311==some .gt)=true;rw[if_pos h2];exact⟨⟨by omega,ur⟩,by decide,by decide⟩;rw[if_neg h2];have h2:=zP.2 h2;obtain⟨hl,hL⟩:=QF x n hx iO gn h2 h1;have hr:=Hx hl;by_cases h3:(cz (iu (ue (ldN x n))) (floatOfInt .f64 m)==some .gt)=true;rw[if_pos h3];exact⟨⟨by omega,ur⟩,by decide,by decide⟩;rw[if_neg h3];have h3:=zP.2 h3;obtain⟨k,rfl⟩:∃k:Nat,m=k:=⟨m.toNat,by omega⟩;obtain⟨_,hv⟩:=QJ hr (by omega) h3;exact⟨hv,Int.le_refl _,by show(0:Int)<=12;decide⟩
def FI:List DV->Option (List DV)
 | [.i x,.i n,.i m]=>if N7 x&&((decide (0<=n)&&decide (n<=32))&&(decide (0<=m)&&decide (m<=1099511627776)))then some [.i (gh x.toNat n m).1,.i (gh x.toNat n m).2]else none
 |_=>none
theorem aaG{Wd:World->Prop}:Has PP Wd 146 (FA K5 FI):=by
 unfold Has;refine .inl ⟨fun w args=>eI Tryz.func146 rfl rfl w args,fun w vs ds hw ha hp=>?_⟩;obtain⟨rs,_,hx⟩:=hp;obtain⟨b9,rfl,hf⟩:=ha;unfold FI at hx;split at hx;rename_i x n m;split at hx;rename_i hc;cases hx;have xh:=hc;simp only[ao,aO]at xh
 match b9,hf with
 | [a,b,c],hf=>
   obtain⟨ha,hb,OC,_⟩:=hf;simp only[lq]at ha hb OC;subst ha;subst hb;subst OC;obtain⟨k,rfl,hm⟩:=wv xh.1;refine(Ns k n m w hm xh.2.1.1 xh.2.1.2 xh.2.2.1 xh.2.2.2).mono ?_;rintro e w' ⟨rfl,rfl⟩;refine⟨[.int .i64 (gh k n m).1,.int .i64 (gh k n m).2],[.i (gh k n m).1,.i (gh k n m).2],rfl,Below.refl _ _,⟨rfl,rfl,trivial⟩,FB,?_⟩;show FI _=_;simp only[FI,hc,if_true,pz]
 cases hx;cases hx
variable {X:bY}
theorem adK:mN PP lK 146=none:=by kernel_rfl
theorem ajd:kc 146=⟨[.i 0 18446744073709551615,.i 0 32,.i 0 1099511627776],[],[.i (-1099511627776) 1099511627776,.i 0 12],[.le (.sub (.c 0) (.v 2)) (rr 0),.le (rr 0) (.v 2)]⟩:=by kernel_rfl
theorem aje(hX:X 146=FI):ng (mN PP lK) X 146 (kc 146).il (kc 146).iK:=by
 rw[ajd];rintro ds ⟨ha,_⟩
 match ds,ha with
 | [.i x,.i n,.i m],ha=>
   have hx:0<=x/\x<=18446744073709551615:=ha.1;have hn:0<=n/\n<=32:=ha.2.1;have hm:0<=m/\m<=1099511627776:=ha.2.2.1;obtain⟨⟨u0,u1⟩,u2,u3⟩:=QK (x:=x.toNat) (n:=n) (m:=m) (by omega) hn.1 hn.2 hm.1 hm.2;refine⟨[.i (gh x.toNat n m).1,.i (gh x.toNat n m).2],jG adK ?_,⟨⟨by omega,by omega⟩,⟨u2,u3⟩,trivial⟩,fun p hp=>?_⟩;rw[hX];simp only[FI,sc hx,Bool.true_and];rw[if_pos];simp only[ao,aO];exact⟨hn,hm⟩;have q0:gD [.i x,.i n,.i m] [.i (gh x.toNat n m).1,.i (gh x.toNat n m).2] R0 = .i (gh x.toNat n m).1:=by
     have:=aF.eL (ae:=a8.au 0 [DV.i x,DV.i n,DV.i m]) (k:=R0) (ds:=[DV.i (gh x.toNat n m).1,DV.i (gh x.toNat n m).2]) (i:=0) rfl;exact this
   have q2:gD [.i x,.i n,.i m] [.i (gh x.toNat n m).1,.i (gh x.toNat n m).2] 2 = .i m:=by
     rw[gD,aF.aT (by unfold R0;omega)];exact aF.eL (ae:=a8) (k:=0) (ds:=[DV.i x,DV.i n,DV.i m]) (i:=2) rfl
   have xK:p = .le (.sub (.c 0) (.v 2)) (rr 0)\/p = .le (rr 0) (.v 2):=by simpa using hp
   rcases xK with rfl|rfl;simp only[BE.af,IE.af,rr,iy,q0,q2,DV.int,aO];omega;simp only[BE.af,IE.af,rr,iy,q0,q2,DV.int,aO];omega
end
section
open Go.Sx Go.RowKit Go
def XX(f:List DV->Option (List DV)):bY:=fun k ds=>
 if k=283 then yD ds else if k=140 then Fz ds else if k=243 then BA ds else if k=266 then BB ds else if k=87 then Xs ds else if k=146 then FI ds else if k=169 then f ds else none
variable (f:List DV->Option (List DV))
theorem af3:XX f 283=yD:=rfl
theorem af4:XX f 140=Fz:=rfl
theorem af5:XX f 243=BA:=rfl
theorem af6:XX f 266=BB:=rfl
theorem ann:XX f 87=Xs:=rfl
theorem af7:XX f 146=FI:=rfl
theorem YN{k:Nat}(h:Xd k=true):k=283\/k=140\/k=243\/k=266\/k=87\/k=146\/k=169:=by
 obtain⟨x,hx,e⟩:=la.1 h;have e:=tm e;subst e;simpa[xs]using hx
theorem acq{k:Nat}(h:Xd k=false):k≠283/\k≠140/\k≠243/\k≠266/\k≠87/\k≠146/\k≠169:=by
 refine⟨?_,?_,?_,?_,?_,?_,?_⟩<;>(rintro rfl;exact absurd h (by decide))
theorem T3:lD 283=some Lo:=by kernel_rfl
theorem T4:lD 140=some K3:=by kernel_rfl
theorem T6:lD 243=some KZ:=by kernel_rfl
theorem T7:lD 266=some K2:=by kernel_rfl
theorem YO:lD 87=some Xo:=by kernel_rfl
theorem T8:lD 146=some K5:=by kernel_rfl
theorem T9:lD 169=some B4:=by kernel_rfl
theorem afR(hr:gX)(WK:Has PP Wd 169 (FA B4 f))(abD:∀ds rs,f ds=some rs->kinds (bP B4.res) rs=true):Bg PP Wd (TT PP) (XX f) Xd lD:=by
 refine acp hr (fun k hk s hs=>?_) (fun k s hk hs ds rs h=>?_) (fun k ds hk=>?_);rcases YN hk with rfl|rfl|rfl|rfl|rfl|rfl|rfl;rw[T3]at hs;cases hs;exact abo;rw[T4]at hs;cases hs;exact aaz;rw[T6]at hs;cases hs;exact aax;rw[T7]at hs;cases hs;exact aay;rw[YO]at hs;cases hs;exact af2;rw[T8]at hs;cases hs;exact aaG;rw[T9]at hs;cases hs;exact WK;rcases YN hk with rfl|rfl|rfl|rfl|rfl|rfl|rfl;rw[T3]at hs;cases hs;rw[af3]at h;unfold yD at h;split at h;split at h<;>cases h;rfl;cases h;rw[T4]at hs;cases hs;rw[af4]at h;unfold Fz at h;split at h;split at h<;>cases h;rfl;cases h;rw[T6]at hs;cases hs;rw[af5]at h;unfold BA at h;split at h;split at h<;>cases h;rfl;cases h;rw[T7]at hs;cases hs;rw[af6]at h;unfold BB at h;split at h;split at h<;>cases h;rfl;cases h;rw[YO]at hs;cases hs;rw[ann]at h;unfold Xs at h;split at h;split at h<;>cases h;rfl;cases h;rw[T8]at hs;cases hs;rw[af7]at h;unfold FI at h;split at h;split at h<;>cases h;rfl;cases h;rw[T9]at hs;cases hs;exact abD ds rs h;obtain⟨h1,h2,h3,h4,h5,h6,h7⟩:=acq hk;simp only[XX,h1,h2,h3,h4,h5,h6,h7,if_false]
theorem amK(hr:gX):Bg PP Wd (TT PP) (XX fun _=>none) Xd lD:=
 afR _ hr (by
   unfold Has;refine .inl ⟨fun w args=>eI Tryz.func169 rfl rfl w args,fun w vs ds hw ha hp=>?_⟩;obtain⟨rs,_,hx⟩:=hp;cases hx) (fun ds rs h=>by cases h)
end
end Go.Proofs.YtohebioanhliiaaGreatDoor.aN
