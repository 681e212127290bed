/- real.Unit and real.Fixed, by the walk. -/
import Derived.Test.YtohebioanhliiaaGreatDoorJB2
import Derived.Shelf.Bits.Mul64
import Derived.Laws.FloatArith
import Derived.Laws.Bits64b
set_option maxRecDepth 20000
set_option linter.unusedVariables false
set_option linter.unusedSimpArgs false
namespace Go.Proofs.YtohebioanhliiaaGreatDoor.aF
section
open Go.RowKit Go Go.Shelf
def ant:Ren:=⟨fun x=>if x=264 then 139 else x,fun x=>if x=46 then 198 else if x=53 then 232 else x,fun x=>x⟩
theorem S8:Lays.n264 Tryz.prog ant where
 mixed:=by kernel_rfl
 f264:=by kernel_rfl
 t46:=by kernel_rfl
 a46:=fun w=>by kernel_rfl
 z46:=fun w=>by kernel_rfl
 v46:=fun w=>by kernel_rfl
 t53:=by kernel_rfl
 a53:=fun w=>by kernel_rfl
 z53:=fun w=>by kernel_rfl
 v53:=fun w=>by kernel_rfl
theorem E9(x y:Nat)(hx:x<18446744073709551616)(hy:y<18446744073709551616)(w:World) :
   Calls Tryz.prog 139 #[.int .u64 x,.int .u64 y] w fun e w'=>e = .returned (.tuple #[.int .u64 ((x*y/18446744073709551616:Nat):Int),.int .u64 ((x*y%18446744073709551616:Nat):Int)])/\w'=w:=Any.bits_Mul64 S8 x y hx hy w
theorem iU(x:Nat)(w:World):(callFunc 138 #[.float .f64 x]).run Tryz.prog w = .ok (.value (.int .u64 x)) w:=by
 rw[run_callFunc_extern Tryz.func138 (by kernel_rfl) (by kernel_rfl) (by kernel_rfl) (e:=Extern.MathFloatBits.float64bits) (by kernel_rfl)];rfl
abbrev cf(x y:Nat):Option Ordering:=FloatKind.f64.format.order x y
def uH(x:Nat):Nat:=(x &&& 4503599627370495) |||4503599627370496
theorem wL(x:Nat):uH x<9007199254740992:=by
 have:x &&& 4503599627370495<2 ^ 53:=Nat.lt_of_le_of_lt Nat.and_le_right (by decide);exact Nat.or_lt_two_pow this (by decide)
theorem S9{x:Nat}(hx:x<18446744073709551616):bits .or .u64 (bits .and .u64 (x:Int) 4503599627370495) 4503599627370496=(uH x:Int):=by
 have e1:=bits_and_u64_nat x 4503599627370495 hx (by decide);have l1:x &&& 4503599627370495<18446744073709551616:=Nat.lt_of_le_of_lt Nat.and_le_right (by decide);have e2:=bits_or_u64_nat (x &&& 4503599627370495) 4503599627370496 l1 (by decide);rw[show(4503599627370495:Int)=((4503599627370495:Nat):Int)from rfl,e1];exact e2
theorem Wq{p d:Nat}(Bv:53<=d)(zl:d<=63)(hp:p<2 ^ 53*16777217):wrap64 (bits .or .u64 (IntKind.u64.wrap (((p:Nat):Int)/18446744073709551616*2 ^ (64-d))) (((p:Nat):Int)%18446744073709551616/2 ^ d))=((p/2 ^ d:Nat):Int):=by
 have ed:2 ^ (64-d)*2 ^ d=18446744073709551616:=by rw[<- Nat.pow_add,show 64-d+d=64 by omega]
 have pd:0<2 ^ d:=Nat.pow_pos (by omega);have pe:0<2 ^ (64-d):=Nat.pow_pos (by omega);have e1:p/2 ^ d=p/18446744073709551616*2 ^ (64-d)+p%18446744073709551616/2 ^ d:=by
   have:=Nat.div_add_mod p 18446744073709551616;have e2:p=p%18446744073709551616+2 ^ d*(p/18446744073709551616*2 ^ (64-d)):=by
     have:2 ^ d*(p/18446744073709551616*2 ^ (64-d))=p/18446744073709551616*(2 ^ (64-d)*2 ^ d):=by
       rw[Nat.mul_comm,Nat.mul_assoc]
     rw[this,ed];omega
   conv=>lhs;rw[e2]
   rw[Nat.add_mul_div_left _ _ pd];omega
 have l1:p%18446744073709551616/2 ^ d<2 ^ (64-d):=by
   rw[Nat.div_lt_iff_lt_mul pd,ed];exact Nat.mod_lt _ (by decide)
 have l2:p/2 ^ d<16777217:=by
   rw[Nat.div_lt_iff_lt_mul pd];have:2 ^ 53<=2 ^ d:=Nat.pow_le_pow_right (by omega) Bv;have:=Nat.mul_le_mul_left 16777217 this;omega
 have c1:((p:Nat):Int)/18446744073709551616*2 ^ (64-d)=((p/18446744073709551616*2 ^ (64-d):Nat):Int):=by
   rw[Int.natCast_mul,Int.natCast_ediv,Int.natCast_pow];rfl
 have c2:((p:Nat):Int)%18446744073709551616/2 ^ d=((p%18446744073709551616/2 ^ d:Nat):Int):=by
   rw[Int.natCast_ediv,Int.natCast_emod,Int.natCast_pow];rfl
 rw[c1,c2];have l3:2 ^ (64-d)<=2 ^ 11:=Nat.pow_le_pow_right (by omega) (by omega);have Aj:=Nat.two_pow_add_eq_or_of_lt l1 (p/18446744073709551616);rw[Nat.mul_comm]at Aj;generalize p/2 ^ d=Q at *;generalize p/18446744073709551616*2 ^ (64-d)=A at *;generalize p%18446744073709551616/2 ^ d=B at *;have hA:IntKind.u64.wrap (A:Int)=A:=by rw[IntKind.wrap_u64];omega
 rw[hA,bits_or_u64_nat _ _ (by omega) (by omega),<- Aj,<- e1];unfold wrap64;omega
theorem Wr{p d:Nat}(Bv:64<=d)(hp:p<2 ^ 53*16777217):wrap64 (((p:Nat):Int)/18446744073709551616/2 ^ (d-64))=((p/2 ^ d:Nat):Int):=by
 have e0:18446744073709551616*2 ^ (d-64)=2 ^ d:=by
   rw[show 18446744073709551616=2 ^ 64 from rfl,<- Nat.pow_add,show 64+(d-64)=d by omega]
 have e1:p/18446744073709551616/2 ^ (d-64)=p/2 ^ d:=by rw[Nat.div_div_eq_div_mul,e0]
 have c1:((p:Nat):Int)/18446744073709551616/2 ^ (d-64)=((p/18446744073709551616/2 ^ (d-64):Nat):Int):=by
   rw[Int.natCast_ediv,Int.natCast_ediv,Int.natCast_pow];rfl
 have l:p/18446744073709551616/2 ^ (d-64)<=p/18446744073709551616:=Nat.div_le_self _ _;rw[c1,<- e1];generalize p/18446744073709551616/2 ^ (d-64)=A at *;unfold wrap64;omega
theorem afJ{x top:Nat}(h0:top<=16777216):uH x*top<2 ^ 53*16777217:=by
 have:=wL x;have h:=Nat.mul_le_mul (Nat.le_of_lt this) h0;omega
section
variable (x top:Nat)(w:World)(hx:x<18446744073709551616)(h0:top<=16777216)
theorem Ta(x:Nat)(top:Nat)(w:World)(hx:x<18446744073709551616)(h0:top<=16777216)(h1:(cf x x != some .eq)=true):Calls Tryz.prog 87 #[.float .f64 x,.int .i64 top] w fun e w'=>e = .returned (.tuple #[.int .i64 0,.int .i64 2])/\w'=w:=by
 go_enter Tryz.func87,Tryz.ntmps87
 go_wp2
 all_goals first|(go_ret2;exact⟨rfl,rfl⟩)|skip
 all_goals simp_all
theorem Tb(x:Nat)(top:Nat)(w:World)(hx:x<18446744073709551616)(h0:top<=16777216)(h1:(cf x x != some .eq)=false)(h2:(cf x 0==some .lt||cf x 0==some .eq)=true):Calls Tryz.prog 87 #[.float .f64 x,.int .i64 top] w fun e w'=>e = .returned (.tuple #[.int .i64 0,.int .i64 0])/\w'=w:=by
 go_enter Tryz.func87,Tryz.ntmps87
 go_wp2
 all_goals first|(go_ret2;exact⟨rfl,rfl⟩)|skip
 all_goals simp_all
theorem M4(x:Nat)(top:Nat)(w:World)(hx:x<18446744073709551616)(h0:top<=16777216)(h1:(cf x x != some .eq)=false)(h2:(cf x 0==some .lt||cf x 0==some .eq)=false)(h3:(cf x 4607182418800017408==some .gt||cf x 4607182418800017408==some .eq)=true):Calls Tryz.prog 87 #[.float .f64 x,.int .i64 top] w fun e w'=>e = .returned (.tuple #[.int .i64 top,.int .i64 0])/\w'=w:=by
 go_enter Tryz.func87,Tryz.ntmps87
 go_wp2
 all_goals first|(go_ret2;exact⟨rfl,rfl⟩)|skip
 all_goals simp_all
theorem Tc(x:Nat)(top:Nat)(w:World)(hx:x<18446744073709551616)(h0:top<=16777216)(h1:(cf x x != some .eq)=false)(h2:(cf x 0==some .lt||cf x 0==some .eq)=false)(h3:(cf x 4607182418800017408==some .gt||cf x 4607182418800017408==some .eq)=false)(d:Nat)(hd:x/4503599627370496+d=1075)(Bv:53<=d)(zl:d<=63) :
   Calls Tryz.prog 87 #[.float .f64 x,.int .i64 top] w fun e w'=>e = .returned (.tuple #[.int .i64 ((uH x*top/2 ^ d:Nat):Int),.int .i64 0])/\w'=w:=by
 have hb:∀w,(callFunc 138 #[.float .f64 x]).run Tryz.prog w = .ok (.value (.int .u64 x)) w:=iU x;have hm:=S9 hx;have hw:IntKind.u64.wrap (top:Int)=top:=by rw[IntKind.wrap_u64];omega
 have hf:=wL x;have hqd:1075-(x:Int)/4503599627370496=(d:Int):=by omega
 have n1:¬ (128:Int)<=d:=by omega
 have n2:¬ (64:Int)<=d:=by omega
 have wd:IntKind.u64.wrap (d:Int)=d:=by rw[IntKind.wrap_u64];omega
 have w6:IntKind.u64.wrap (64-(d:Int))=((64-d:Nat):Int):=by rw[IntKind.wrap_u64];omega
 go_enter Tryz.func87,Tryz.ntmps87
 go_wp2_with (go_at_call 139;refine(E9 (uH x) top (by omega) (by omega) _).mono ?_;rintro e w1 ⟨rfl,rfl⟩)
 have t:=Wq Bv zl (afJ (x:=x) h0);rw[Int.natCast_mul]at t
 all_goals go_ret2
 all_goals refine⟨?_,rfl⟩
 all_goals rw[<- t]
 all_goals rfl
theorem Td(x:Nat)(top:Nat)(w:World)(hx:x<18446744073709551616)(h0:top<=16777216)(h1:(cf x x != some .eq)=false)(h2:(cf x 0==some .lt||cf x 0==some .eq)=false)(h3:(cf x 4607182418800017408==some .gt||cf x 4607182418800017408==some .eq)=false)(d:Nat)(hd:x/4503599627370496+d=1075)(Bv:64<=d)(zl:d<=127) :
   Calls Tryz.prog 87 #[.float .f64 x,.int .i64 top] w fun e w'=>e = .returned (.tuple #[.int .i64 ((uH x*top/2 ^ d:Nat):Int),.int .i64 0])/\w'=w:=by
 have hb:∀w,(callFunc 138 #[.float .f64 x]).run Tryz.prog w = .ok (.value (.int .u64 x)) w:=iU x;have hm:=S9 hx;have hw:IntKind.u64.wrap (top:Int)=top:=by rw[IntKind.wrap_u64];omega
 have hf:=wL x;have hqd:1075-(x:Int)/4503599627370496=(d:Int):=by omega
 have n1:¬ (128:Int)<=d:=by omega
 have n2:(64:Int)<=d:=by omega
 have w6:IntKind.u64.wrap ((d:Int)-64)=((d-64:Nat):Int):=by rw[IntKind.wrap_u64];omega
 go_enter Tryz.func87,Tryz.ntmps87
 go_wp2_with (go_at_call 139;refine(E9 (uH x) top (by omega) (by omega) _).mono ?_;rintro e w1 ⟨rfl,rfl⟩)
 have t:=Wr Bv (afJ (x:=x) h0);rw[Int.natCast_mul]at t
 all_goals go_ret2
 all_goals refine⟨?_,rfl⟩
 all_goals rw[<- t]
 all_goals rfl
theorem M5(x:Nat)(top:Nat)(w:World)(hx:x<18446744073709551616)(h0:top<=16777216)(h1:(cf x x != some .eq)=false)(h2:(cf x 0==some .lt||cf x 0==some .eq)=false)(h3:(cf x 4607182418800017408==some .gt||cf x 4607182418800017408==some .eq)=false)(d:Nat)(hd:x/4503599627370496+d=1075)(Bv:128<=d) :
   Calls Tryz.prog 87 #[.float .f64 x,.int .i64 top] w fun e w'=>e = .returned (.tuple #[.int .i64 0,.int .i64 0])/\w'=w:=by
 have hb:∀w,(callFunc 138 #[.float .f64 x]).run Tryz.prog w = .ok (.value (.int .u64 x)) w:=iU x;have hm:=S9 hx;have hw:IntKind.u64.wrap (top:Int)=top:=by rw[IntKind.wrap_u64];omega
 have hf:=wL x;have hqd:1075-(x:Int)/4503599627370496=(d:Int):=by omega
 have n1:(128:Int)<=d:=by omega
 go_enter Tryz.func87,Tryz.ntmps87
 go_wp2_with (go_at_call 139;refine(E9 (uH x) top (by omega) (by omega) _).mono ?_;rintro e w1 ⟨rfl,rfl⟩)
 all_goals first|(go_ret2;exact⟨rfl,rfl⟩)|skip
end
end
section
open Go.RowKit Go Ieee
def eQ(x:Nat):Datum:=
 if x%9223372036854775808<4503599627370496 then .number (x/9223372036854775808%2==1) (x%9223372036854775808) (-1074)
 else if x%9223372036854775808<9218868437227405312 then .number (x/9223372036854775808%2==1) (4503599627370496+x%9223372036854775808%4503599627370496) (-1074+((x%9223372036854775808/4503599627370496-1:Nat):Int))
 else if x%9223372036854775808=9218868437227405312 then .infinity (x/9223372036854775808%2==1)
 else .nan (x/9223372036854775808%2==1) (x%9223372036854775808-9218868437227405312)
theorem tT(x:Nat):FloatKind.f64.format.read x=eQ x:=by
 show Ieee.Format.read double x=eQ x;have e1:double.signWeight=9223372036854775808:=by decide
 have e2:double.binade=4503599627370496:=by decide
 have e3:double.infRung=9218868437227405312:=by decide
 have e4:double.leastPlace = -1074:=by decide
 simp only[Format.read,e1,e2,e3,e4,eQ]
theorem A4(x y:Nat):cf x y=(eQ x).order (eQ y):=by
 show(FloatKind.f64.format.read x).order (FloatKind.f64.format.read y)=_;rw[tT,tT]
theorem afK:eQ 0 = .number false 0 (-1074):=by decide
theorem afL:eQ 4607182418800017408 = .number false 4503599627370496 (-52):=by decide
theorem yH(m u:Nat):signed true m u = -((m <<< u:Nat):Int):=rfl
theorem gY(m u:Nat):signed false m u=((m <<< u:Nat):Int):=rfl
theorem Br{x:Nat}(hx:x<18446744073709551616)(h1:(cf x x != some .eq)=false)(h2:(cf x 0==some .lt||cf x 0==some .eq)=false)(h3:(cf x 4607182418800017408==some .gt||cf x 4607182418800017408==some .eq)=false):x/4503599627370496<=1022:=by
 rw[A4]at h1;rw[A4,afK]at h2;rw[A4,afL]at h3;rcases Nat.lt_or_ge x 9223372036854775808 with hs|hs;have es:(x/9223372036854775808%2==1)=false:=by rw[Nat.div_eq_of_lt hs];rfl
 have em:x%9223372036854775808=x:=Nat.mod_eq_of_lt hs;rcases Nat.lt_or_ge 1022 (x/4503599627370496)with hq|hq;exfalso;unfold eQ at h1 h3;rw[es,em]at h1 h3;rw[if_neg (by omega)]at h1 h3;split at h3;rename_i h;simp only[Datum.order,gY]at h3;have eb:min (-1074+((x/4503599627370496-1:Nat):Int)) (-52) = -52:=by omega
 rw[eb,show((-52:Int) - -52).toNat=0 from rfl,Nat.shiftLeft_zero]at h3;generalize hu:(-1074+((x/4503599627370496-1:Nat):Int) - -52).toNat=u at h3;have:4503599627370496<=(4503599627370496+x%4503599627370496) <<< u:=by
   rw[Nat.shiftLeft_eq];have:=Nat.pow_pos (n:=u) (show 0<2 by omega);have:=Nat.le_mul_of_pos_right (4503599627370496+x%4503599627370496) this;omega
 generalize(4503599627370496+x%4503599627370496) <<< u=m at *;rcases Nat.lt_or_ge 4503599627370496 m with hm|hm;have:compare (m:Int) ((4503599627370496:Nat):Int) = .gt:=Int.compare_eq_gt.2 (by omega);rw[this]at h3;exact absurd h3 (by decide);have:compare (m:Int) ((4503599627370496:Nat):Int) = .eq:=Int.compare_eq_eq.2 (by omega);rw[this]at h3;exact absurd h3 (by decide);rename_i h;rw[if_neg h]at h1;split at h3;exact absurd h3 (by decide);rename_i h';rw[if_neg h']at h1;exact absurd h1 (by simp[Datum.order]);exact hq;exfalso;have es:(x/9223372036854775808%2==1)=true:=by
   have:x/9223372036854775808=1:=by omega
   rw[this];rfl
 unfold eQ at h1 h2;rw[es]at h1 h2;have key:∀(m u v:Nat),(some (compare (signed true m u) (signed false 0 v))==some Ordering.lt||some (compare (signed true m u) (signed false 0 v))==some Ordering.eq)=true:=by
   intro m u v;rw[yH,gY,Nat.zero_shiftLeft];rcases Nat.eq_zero_or_pos (m <<< u)with e|e;rw[e];decide;have:compare (-((m <<< u:Nat):Int)) ((0:Nat):Int) = .lt:=Int.compare_eq_lt.2 (by omega);rw[this];decide
 split at h2;simp only[Datum.order,key]at h2;exact absurd h2 (by decide);rename_i h;rw[if_neg h]at h1;split at h2;simp only[Datum.order,key]at h2;exact absurd h2 (by decide);rename_i h';rw[if_neg h']at h1;split at h2;exact absurd h2 (by decide);rename_i h'';rw[if_neg h'']at h1;exact absurd h1 (by simp[Datum.order])
end
section
open Go.RowKit Go
def gR(x:Nat):Nat:=x%9223372036854775808
theorem GF{x:Nat}(hx:x<18446744073709551616):bits .andNot .u64 (x:Int) 9223372036854775808=(gR x:Int):=by
 have h1:(BitVec.ofInt 64 (x:Int)).toNat=x:=by
   rw[BitVec.ofInt_natCast,BitVec.toNat_ofNat];exact Nat.mod_eq_of_lt (by omega)
 show IntKind.u64.wrap ((BitVec.ofInt 64 (x:Int) &&& ~~~ BitVec.ofInt 64 9223372036854775808).toNat:Int)=_;have h2:(~~~ BitVec.ofInt 64 9223372036854775808).toNat=2 ^ 63-1:=by decide
 rw[BitVec.toNat_and,h1,h2,Nat.and_two_pow_sub_one_eq_mod,IntKind.wrap_u64];unfold gR;omega
theorem qg(x:Nat)(w:World):(callFunc 140 #[.int .u64 x]).run Tryz.prog w = .ok (.value (.float .f64 x)) w:=by
 rw[run_callFunc_extern Tryz.func140 (by kernel_rfl) (by kernel_rfl) (by kernel_rfl) (e:=Extern.MathFloatBits.float64frombits) (by kernel_rfl)];rfl
theorem wD(x:Nat)(w:World)(hx:x<18446744073709551616):Calls Tryz.prog 192 #[.float .f64 x] w fun e w'=>e = .returned (.float .f64 (gR x))/\w'=w:=by
 have hb:∀w,(callFunc 138 #[.float .f64 x]).run Tryz.prog w = .ok (.value (.int .u64 x)) w:=iU x;have hf:∀w,(callFunc 140 #[.int .u64 (gR x:Int)]).run Tryz.prog w = .ok (.value (.float .f64 (gR x))) w:=qg (gR x);have ha:=GF hx;go_enter Tryz.func192,Tryz.ntmps192
 go_wp2
 all_goals first|(go_ret;exact⟨rfl,rfl⟩)|skip
theorem qh(x:Nat)(w:World):Calls Tryz.prog 258 #[.float .f64 x] w fun e w'=>e = .returned (.bool (cf x x != some .eq))/\w'=w:=by
 go_enter Tryz.func258,Tryz.ntmps258
 go_wp2
 all_goals first|(go_ret;exact⟨rfl,rfl⟩)|skip
theorem jm(x:Nat)(w:World)(hx:x<18446744073709551616):Calls Tryz.prog 189 #[.float .f64 x,.int .i64 0] w fun e w'=>e = .returned (.bool (cf (gR x) 9218868437227405311==some .gt))/\w'=w:=by
 go_enter Tryz.func189,Tryz.ntmps189
 go_wp2_with (go_at_call 192;refine(wD x _ hx).mono ?_;rintro e w1 ⟨rfl,rfl⟩)
 all_goals first|(go_ret;exact⟨rfl,rfl⟩)|skip
theorem Vp(w:World):Calls Tryz.prog 261 #[.int .i64 (-1)] w fun e w'=>e = .returned (.float .f64 18442240474082181120)/\w'=w:=by
 have hf:∀w,(callFunc 140 #[.int .u64 18442240474082181120]).run Tryz.prog w = .ok (.value (.float .f64 18442240474082181120)) w:=qg 18442240474082181120;go_enter Tryz.func261,Tryz.ntmps261
 go_wp2
 all_goals first|(go_ret;exact⟨rfl,rfl⟩)|skip
theorem ES(w:World):Calls Tryz.prog 261 #[.int .i64 1] w fun e w'=>e = .returned (.float .f64 9218868437227405312)/\w'=w:=by
 have hf:∀w,(callFunc 140 #[.int .u64 9218868437227405312]).run Tryz.prog w = .ok (.value (.float .f64 9218868437227405312)) w:=qg 9218868437227405312;go_enter Tryz.func261,Tryz.ntmps261
 go_wp2
 all_goals first|(go_ret;exact⟨rfl,rfl⟩)|skip
end
section
open Go.RowKit Go
def Cc(x:Nat):Nat:=x/9223372036854775808*9223372036854775808
theorem PZ{x:Nat}(hx:x<18446744073709551616):bits .or .u64 (bits .andNot .u64 0 9223372036854775808) (bits .and .u64 (x:Int) 9223372036854775808)=(Cc x:Int):=by
 have e0:bits .andNot .u64 0 9223372036854775808=((0:Nat):Int):=by decide
 have e1:=bits_and_u64_nat x 9223372036854775808 hx (by decide);rw[show(9223372036854775808:Int)=((9223372036854775808:Nat):Int)from rfl]at e0 ⊢;rw[e0,e1];have l1:x &&& 9223372036854775808<18446744073709551616:=Nat.lt_of_le_of_lt Nat.and_le_right (by decide);rw[bits_or_u64_nat 0 _ (by decide) l1,Nat.zero_or];have:x &&& 2 ^ 63=Cc x:=by
   have hb:x.testBit 63=decide (x/2 ^ 63%2=1):=Nat.testBit_eq_decide_div_mod_eq;refine Nat.eq_of_testBit_eq fun i=>?_;rw[Nat.testBit_and,Nat.testBit_two_pow];unfold Cc;by_cases hi:63=i;subst hi;rw[hb];rcases Nat.lt_or_ge x 9223372036854775808 with h|h;rw[show x/2 ^ 63=0 from Nat.div_eq_of_lt h];decide;have e:x/9223372036854775808=1:=by omega
   rw[show x/2 ^ 63=1 from e];decide;have e:x/9223372036854775808=0\/x/9223372036854775808=1:=by omega
   rw[decide_eq_false hi,Bool.and_false];rcases e with e|e;rw[e];simp;rw[e,show 1*9223372036854775808=2 ^ 63 from rfl,Nat.testBit_two_pow,decide_eq_false hi]
 exact congrArg _ this
theorem ET(x:Nat)(w:World)(hx:x<18446744073709551616):Calls Tryz.prog 260 #[.float .f64 0,.float .f64 x] w fun e w'=>e = .returned (.float .f64 (Cc x))/\w'=w:=by
 have hb:∀w,(callFunc 138 #[.float .f64 x]).run Tryz.prog w = .ok (.value (.int .u64 x)) w:=iU x;have hz:∀w,(callFunc 138 #[.float .f64 0]).run Tryz.prog w = .ok (.value (.int .u64 0)) w:=iU 0;have hf:∀w,(callFunc 140 #[.int .u64 (Cc x:Int)]).run Tryz.prog w = .ok (.value (.float .f64 (Cc x))) w:=qg (Cc x);have ha:=PZ hx;go_enter Tryz.func260,Tryz.ntmps260
 go_wp2
 all_goals first|(go_ret;exact⟨rfl,rfl⟩)|skip
theorem zd(x:Nat)(w:World)(hx:x<18446744073709551616)(h:(cf (gR x) 4503599627370496==some .lt)=false):Calls Tryz.prog 259 #[.float .f64 x] w fun e w'=>e = .returned (.tuple #[.float .f64 x,.int .i64 0])/\w'=w:=by
 go_enter Tryz.func259,Tryz.ntmps259
 go_wp2_with (go_at_call 192;refine(wD x _ hx).mono ?_;rintro e w1 ⟨rfl,rfl⟩)
 all_goals first|(go_ret2;exact⟨rfl,rfl⟩)|skip
 all_goals simp_all
theorem ze(x r:Nat)(w:World)(hx:x<18446744073709551616)(h:(cf (gR x) 4503599627370496==some .lt)=true)(hr:FloatKind.f64.format.mul x 4841369599423283200=some r):Calls Tryz.prog 259 #[.float .f64 x] w fun e w'=>e = .returned (.tuple #[.float .f64 r,.int .i64 (-52)])/\w'=w:=by
 have hm:∀w,(binOp .mul 180 (.float .f64 x) (.float .f64 4841369599423283200)).run Tryz.prog w = .ok (.float .f64 r) w:=fun w=>run_float_arith w .mul 180 .f64 x 4841369599423283200 r hr;go_enter Tryz.func259,Tryz.ntmps259
 go_wp2_with (go_at_call 192;refine(wD x _ hx).mono ?_;rintro e w1 ⟨rfl,rfl⟩)
 all_goals first|(go_ret2;exact⟨rfl,rfl⟩)|skip
 all_goals simp_all
end
section
open Go.RowKit Go
section
variable (x:Nat)(n:Int)(w:World)(hx:x<18446744073709551616)(iq:0<=n)(fP:n<=32)
theorem Iz(x:Nat)(n:Int)(w:World)(hx:x<18446744073709551616)(iq:0<=n)(fP:n<=32)(h:(cf x 0==some .eq)=true):Calls Tryz.prog 231 #[.float .f64 x,.int .i64 n] w fun e w'=>e = .returned (.float .f64 x)/\w'=w:=by
 go_enter Tryz.func231,Tryz.ntmps231
 go_wp2
 all_goals first|(go_ret;exact⟨rfl,rfl⟩)|skip
 all_goals simp_all
variable (y q:Nat)(e:Int)(hy:y<18446744073709551616)(he:e=0\/e = -52)(Xu:q<=2047)(hq:bits .and .i64 ((y:Int)/4503599627370496) 2047=(q:Int))(hN:∀w,Calls Tryz.prog 259 #[.float .f64 x] w fun z w'=>z = .returned (.tuple #[.float .f64 y,.int .i64 e])/\w'=w)
 (h0:(cf x 0==some .eq)=false) (h1:(cf (gR x) 9218868437227405311==some .gt)=false) (h2:(cf x x != some .eq)=false)
theorem Mu(x:Nat)(n:Int)(w:World)(hx:x<18446744073709551616)(iq:0<=n)(fP:n<=32)(y:Nat)(q:Nat)(e:Int)(hy:y<18446744073709551616)(he:e=0\/e = -52)(Xu:q<=2047)(hq:bits .and .i64 ((y:Int)/4503599627370496) 2047=(q:Int))(hN:∀w,Calls Tryz.prog 259 #[.float .f64 x] w fun z w'=>z = .returned (.tuple #[.float .f64 y,.int .i64 e])/\w'=w)(h0:(cf x 0==some .eq)=false)(h1:(cf (gR x) 9218868437227405311==some .gt)=false)(h2:(cf x x != some .eq)=false)(hE:n+e+(q-1023) < -1075):Calls Tryz.prog 231 #[.float .f64 x,.int .i64 n] w fun z w'=>z = .returned (.float .f64 (Cc y))/\w'=w:=by
 have hb:∀w,(callFunc 138 #[.float .f64 y]).run Tryz.prog w = .ok (.value (.int .u64 y)) w:=iU y;go_enter Tryz.func231,Tryz.ntmps231
 go_wp2_with (first|(go_at_call 189;refine(jm x _ hx).mono ?_;rintro z w1 ⟨rfl,rfl⟩)|(go_at_call 258;refine(qh x _).mono ?_;rintro z w1 ⟨rfl,rfl⟩)|(go_at_call 259;refine(hN _).mono ?_;rintro z w1 ⟨rfl,rfl⟩)|(go_at_call 260;refine(ET y _ hy).mono ?_;rintro z w1 ⟨rfl,rfl⟩))
 all_goals first|(go_ret;exact⟨rfl,rfl⟩)|skip
theorem Mv(x:Nat)(n:Int)(w:World)(hx:x<18446744073709551616)(iq:0<=n)(fP:n<=32)(y:Nat)(q:Nat)(e:Int)(hy:y<18446744073709551616)(he:e=0\/e = -52)(Xu:q<=2047)(hq:bits .and .i64 ((y:Int)/4503599627370496) 2047=(q:Int))(hN:∀w,Calls Tryz.prog 259 #[.float .f64 x] w fun z w'=>z = .returned (.tuple #[.float .f64 y,.int .i64 e])/\w'=w)(h0:(cf x 0==some .eq)=false)(h1:(cf (gR x) 9218868437227405311==some .gt)=false)(h2:(cf x x != some .eq)=false)(hE:1023<n+e+(q-1023))(hs:(cf y 0==some .lt)=true):Calls Tryz.prog 231 #[.float .f64 x,.int .i64 n] w fun z w'=>z = .returned (.float .f64 18442240474082181120)/\w'=w:=by
 have hb:∀w,(callFunc 138 #[.float .f64 y]).run Tryz.prog w = .ok (.value (.int .u64 y)) w:=iU y;go_enter Tryz.func231,Tryz.ntmps231
 go_wp2_with (first|(go_at_call 189;refine(jm x _ hx).mono ?_;rintro z w1 ⟨rfl,rfl⟩)|(go_at_call 258;refine(qh x _).mono ?_;rintro z w1 ⟨rfl,rfl⟩)|(go_at_call 259;refine(hN _).mono ?_;rintro z w1 ⟨rfl,rfl⟩)|(go_at_call 261;refine(Vp _).mono ?_;rintro z w1 ⟨rfl,rfl⟩))
 all_goals first|(go_ret;exact⟨rfl,rfl⟩)|skip
theorem Mw(x:Nat)(n:Int)(w:World)(hx:x<18446744073709551616)(iq:0<=n)(fP:n<=32)(y:Nat)(q:Nat)(e:Int)(hy:y<18446744073709551616)(he:e=0\/e = -52)(Xu:q<=2047)(hq:bits .and .i64 ((y:Int)/4503599627370496) 2047=(q:Int))(hN:∀w,Calls Tryz.prog 259 #[.float .f64 x] w fun z w'=>z = .returned (.tuple #[.float .f64 y,.int .i64 e])/\w'=w)(h0:(cf x 0==some .eq)=false)(h1:(cf (gR x) 9218868437227405311==some .gt)=false)(h2:(cf x x != some .eq)=false)(hE:1023<n+e+(q-1023))(hs:(cf y 0==some .lt)=false):Calls Tryz.prog 231 #[.float .f64 x,.int .i64 n] w fun z w'=>z = .returned (.float .f64 9218868437227405312)/\w'=w:=by
 have hb:∀w,(callFunc 138 #[.float .f64 y]).run Tryz.prog w = .ok (.value (.int .u64 y)) w:=iU y;go_enter Tryz.func231,Tryz.ntmps231
 go_wp2_with (first|(go_at_call 189;refine(jm x _ hx).mono ?_;rintro z w1 ⟨rfl,rfl⟩)|(go_at_call 258;refine(qh x _).mono ?_;rintro z w1 ⟨rfl,rfl⟩)|(go_at_call 259;refine(hN _).mono ?_;rintro z w1 ⟨rfl,rfl⟩)|(go_at_call 261;refine(ES _).mono ?_;rintro z w1 ⟨rfl,rfl⟩))
 all_goals first|(go_ret;exact⟨rfl,rfl⟩)|skip
theorem Mx(x:Nat)(n:Int)(w:World)(hx:x<18446744073709551616)(iq:0<=n)(fP:n<=32)(y:Nat)(q:Nat)(e:Int)(hy:y<18446744073709551616)(he:e=0\/e = -52)(Xu:q<=2047)(hq:bits .and .i64 ((y:Int)/4503599627370496) 2047=(q:Int))(hN:∀w,Calls Tryz.prog 259 #[.float .f64 x] w fun z w'=>z = .returned (.tuple #[.float .f64 y,.int .i64 e])/\w'=w)(h0:(cf x 0==some .eq)=false)(h1:(cf (gR x) 9218868437227405311==some .gt)=false)(h2:(cf x x != some .eq)=false)(k z r:Nat)(hE:n+e+(q-1023)+1023=k)(Tu:1<=k)(ud:k<=2046)(hz:bits .or .u64 (bits .andNot .u64 (y:Int) 9218868437227405312) ((k:Int)*4503599627370496)=(z:Int))(hr:FloatKind.f64.format.mul 4607182418800017408 z=some r) :
   Calls Tryz.prog 231 #[.float .f64 x,.int .i64 n] w fun z w'=>z = .returned (.float .f64 r)/\w'=w:=by
 have hb:∀w,(callFunc 138 #[.float .f64 y]).run Tryz.prog w = .ok (.value (.int .u64 y)) w:=iU y;have hf:∀w,(callFunc 140 #[.int .u64 (z:Int)]).run Tryz.prog w = .ok (.value (.float .f64 z)) w:=qg z;have hm:∀w,(binOp .mul 180 (.float .f64 4607182418800017408) (.float .f64 z)).run Tryz.prog w = .ok (.float .f64 r) w:=fun w=>run_float_arith w .mul 180 .f64 4607182418800017408 z r hr;have hw:IntKind.u64.wrap (n+e+(q-1023)+1023)=(k:Int):=by rw[hE,IntKind.wrap_u64];omega
 have hw2:IntKind.u64.wrap ((k:Int)*4503599627370496)=(k:Int)*4503599627370496:=by rw[IntKind.wrap_u64];omega
 go_enter Tryz.func231,Tryz.ntmps231
 go_wp2_with (first|(go_at_call 189;refine(jm x _ hx).mono ?_;rintro z w1 ⟨rfl,rfl⟩)|(go_at_call 258;refine(qh x _).mono ?_;rintro z w1 ⟨rfl,rfl⟩)|(go_at_call 259;refine(hN _).mono ?_;rintro z w1 ⟨rfl,rfl⟩)|(go_at_call 261;refine(ES _).mono ?_;rintro z w1 ⟨rfl,rfl⟩))
 all_goals first|(go_ret;exact⟨rfl,rfl⟩)|skip
theorem My(x:Nat)(n:Int)(w:World)(hx:x<18446744073709551616)(iq:0<=n)(fP:n<=32)(y:Nat)(q:Nat)(e:Int)(hy:y<18446744073709551616)(he:e=0\/e = -52)(Xu:q<=2047)(hq:bits .and .i64 ((y:Int)/4503599627370496) 2047=(q:Int))(hN:∀w,Calls Tryz.prog 259 #[.float .f64 x] w fun z w'=>z = .returned (.tuple #[.float .f64 y,.int .i64 e])/\w'=w)(h0:(cf x 0==some .eq)=false)(h1:(cf (gR x) 9218868437227405311==some .gt)=false)(h2:(cf x x != some .eq)=false)(k z r:Nat)(hE:n+e+(q-1023)+53+1023=k)(Tu:1<=k)(ud:k<=53)(hz:bits .or .u64 (bits .andNot .u64 (y:Int) 9218868437227405312) ((k:Int)*4503599627370496)=(z:Int))(hr:FloatKind.f64.format.mul 4368491638549381120 z=some r) :
   Calls Tryz.prog 231 #[.float .f64 x,.int .i64 n] w fun z w'=>z = .returned (.float .f64 r)/\w'=w:=by
 have hb:∀w,(callFunc 138 #[.float .f64 y]).run Tryz.prog w = .ok (.value (.int .u64 y)) w:=iU y;have hf:∀w,(callFunc 140 #[.int .u64 (z:Int)]).run Tryz.prog w = .ok (.value (.float .f64 z)) w:=qg z;have hm:∀w,(binOp .mul 180 (.float .f64 4368491638549381120) (.float .f64 z)).run Tryz.prog w = .ok (.float .f64 r) w:=fun w=>run_float_arith w .mul 180 .f64 4368491638549381120 z r hr;have hw:IntKind.u64.wrap (n+e+(q-1023)+53+1023)=(k:Int):=by rw[hE,IntKind.wrap_u64];omega
 have hw2:IntKind.u64.wrap ((k:Int)*4503599627370496)=(k:Int)*4503599627370496:=by rw[IntKind.wrap_u64];omega
 go_enter Tryz.func231,Tryz.ntmps231
 go_wp2_with (first|(go_at_call 189;refine(jm x _ hx).mono ?_;rintro z w1 ⟨rfl,rfl⟩)|(go_at_call 258;refine(qh x _).mono ?_;rintro z w1 ⟨rfl,rfl⟩)|(go_at_call 259;refine(hN _).mono ?_;rintro z w1 ⟨rfl,rfl⟩)|(go_at_call 261;refine(ES _).mono ?_;rintro z w1 ⟨rfl,rfl⟩))
 all_goals first|(go_ret;exact⟨rfl,rfl⟩)|skip
end
end
section
open Go.RowKit Go
section
variable (x:Nat)(n m:Int)(w:World)(hx:x<18446744073709551616)(iq:0<=n)(fP:n<=32)(tB:0<=m)(vB:m<=1099511627776)
theorem Mz(x:Nat)(n:Int)(m:Int)(w:World)(hx:x<18446744073709551616)(iq:0<=n)(fP:n<=32)(tB:0<=m)(vB:m<=1099511627776)(h:(cf x x != some .eq)=true):Calls Tryz.prog 146 #[.float .f64 x,.int .i64 n,.int .i64 m] w fun e w'=>e = .returned (.tuple #[.int .i64 0,.int .i64 2])/\w'=w:=by
 go_enter Tryz.func146,Tryz.ntmps146
 go_wp2_with (go_at_call 189;refine(jm x _ hx).mono ?_;rintro z w1 ⟨rfl,rfl⟩)
 all_goals first|(go_ret2;exact⟨rfl,rfl⟩)|skip
 all_goals simp_all
theorem MA(x:Nat)(n:Int)(m:Int)(w:World)(hx:x<18446744073709551616)(iq:0<=n)(fP:n<=32)(tB:0<=m)(vB:m<=1099511627776)(h:(cf x x != some .eq)=false)(h1:(cf (gR x) 9218868437227405311==some .gt)=true):Calls Tryz.prog 146 #[.float .f64 x,.int .i64 n,.int .i64 m] w fun e w'=>e = .returned (.tuple #[.int .i64 0,.int .i64 3])/\w'=w:=by
 go_enter Tryz.func146,Tryz.ntmps146
 go_wp2_with (go_at_call 189;refine(jm x _ hx).mono ?_;rintro z w1 ⟨rfl,rfl⟩)
 all_goals first|(go_ret2;exact⟨rfl,rfl⟩)|skip
 all_goals simp_all
variable (l nr f:Nat)(hl:l<18446744073709551616)(qn:nr<18446744073709551616)
 (h:(cf x x != some .eq)=false) (h1:(cf (gR x) 9218868437227405311==some .gt)=false)
 (hL:∀w,Calls Tryz.prog 231 #[.float .f64 x,.int .i64 n] w fun z w'=>z = .returned (.float .f64 l)/\w'=w)
 (hR:∀w,(callFunc 190 #[.float .f64 l]).run Tryz.prog w = .ok (.value (.float .f64 nr)) w)
theorem Dc(x:Nat)(n:Int)(m:Int)(hx:x<18446744073709551616)(iq:0<=n)(fP:n<=32)(tB:0<=m)(vB:m<=1099511627776)(l:Nat)(nr:Nat)(hl:l<18446744073709551616)(qn:nr<18446744073709551616)(h:(cf x x != some .eq)=false)(h1:(cf (gR x) 9218868437227405311==some .gt)=false)(hL:∀w,Calls Tryz.prog 231 #[.float .f64 x,.int .i64 n] w fun z w'=>z = .returned (.float .f64 l)/\w'=w)(hR:∀w,(callFunc 190 #[.float .f64 l]).run Tryz.prog w = .ok (.value (.float .f64 nr)) w)(w:World):Calls Tryz.prog 191 #[.float .f64 x,.int .i64 n] w fun z w'=>z = .returned (.float .f64 l)/\w'=w:=by
 go_enter Tryz.func191,Tryz.ntmps191
 go_wp2_with (go_at_call 231;refine(hL _).mono ?_;rintro z w1 ⟨rfl,rfl⟩)
 all_goals first|(go_ret;exact⟨rfl,rfl⟩)|skip
theorem GG(x:Nat)(n:Int)(m:Int)(w:World)(hx:x<18446744073709551616)(iq:0<=n)(fP:n<=32)(tB:0<=m)(vB:m<=1099511627776)(l:Nat)(nr:Nat)(hl:l<18446744073709551616)(qn:nr<18446744073709551616)(h:(cf x x != some .eq)=false)(h1:(cf (gR x) 9218868437227405311==some .gt)=false)(hL:∀w,Calls Tryz.prog 231 #[.float .f64 x,.int .i64 n] w fun z w'=>z = .returned (.float .f64 l)/\w'=w)(hR:∀w,(callFunc 190 #[.float .f64 l]).run Tryz.prog w = .ok (.value (.float .f64 nr)) w)(h4:(cf (gR nr) (floatOfInt .f64 m)==some .gt)=true):Calls Tryz.prog 146 #[.float .f64 x,.int .i64 n,.int .i64 m] w fun e w'=>e = .returned (.tuple #[.int .i64 0,.int .i64 4])/\w'=w:=by
 go_enter Tryz.func146,Tryz.ntmps146
 go_wp2_with (first|(go_at_call 189;refine(jm x _ hx).mono ?_;rintro z w1 ⟨rfl,rfl⟩)|(go_at_call 191;refine(Dc x n m hx iq fP tB vB l nr hl qn h h1 hL hR _).mono ?_;rintro z w1 ⟨rfl,rfl⟩)|(go_at_call 192;refine(wD nr _ qn).mono ?_;rintro z w1 ⟨rfl,rfl⟩))
 all_goals first|(go_ret2;exact⟨rfl,rfl⟩)|skip
theorem P2(x:Nat)(n:Int)(m:Int)(w:World)(hx:x<18446744073709551616)(iq:0<=n)(fP:n<=32)(tB:0<=m)(vB:m<=1099511627776)(l:Nat)(nr:Nat)(hl:l<18446744073709551616)(qn:nr<18446744073709551616)(h:(cf x x != some .eq)=false)(h1:(cf (gR x) 9218868437227405311==some .gt)=false)(hL:∀w,Calls Tryz.prog 231 #[.float .f64 x,.int .i64 n] w fun z w'=>z = .returned (.float .f64 l)/\w'=w)(hR:∀w,(callFunc 190 #[.float .f64 l]).run Tryz.prog w = .ok (.value (.float .f64 nr)) w)(v:Int)(h4:(cf (gR nr) (floatOfInt .f64 m)==some .gt)=false)(hv:floatToIntVal .f64 nr .i64=some v):Calls Tryz.prog 146 #[.float .f64 x,.int .i64 n,.int .i64 m] w fun e w'=>e = .returned (.tuple #[.int .i64 v,.int .i64 0])/\w'=w:=by
 have hc:∀w,(convert 180 3 (.float .f64 nr)).run Tryz.prog w = .ok (.int .i64 v) w:=fun w=>run_convert_float_int w 180 3 .f64 .i64 nr v (by kernel_rfl) (by kernel_rfl) hv;go_enter Tryz.func146,Tryz.ntmps146
 go_wp2_with (first|(go_at_call 189;refine(jm x _ hx).mono ?_;rintro z w1 ⟨rfl,rfl⟩)|(go_at_call 191;refine(Dc x n m hx iq fP tB vB l nr hl qn h h1 hL hR _).mono ?_;rintro z w1 ⟨rfl,rfl⟩)|(go_at_call 192;refine(wD nr _ qn).mono ?_;rintro z w1 ⟨rfl,rfl⟩))
 all_goals first|(go_ret2;exact⟨rfl,rfl⟩)|skip
end
end
section
open Go.RowKit Go Ieee
def oP(x:Nat):Prop:=x<18446744073709551616/\x%9223372036854775808<=9218868437227405312
theorem EU(s:Bool){r:Nat}(h:r<=9218868437227405312):oP (double.word s r):=by
 have e1:double.signWeight=9223372036854775808:=by decide
 unfold oP Format.word;rw[e1];cases s;simp only[Bool.false_eq_true,if_false];omega;simp only[if_true];omega
theorem IA(s:Bool)(m:Nat)(p:Int):oP (double.nearest s m p):=by
 have e3:double.infRung=9218868437227405312:=by decide
 unfold Format.nearest;split;exact EU s (by omega);exact EU s (by rw[e3];exact Nat.min_le_right _ _)
def isNum:Datum->Bool
 |.nan .. =>false
 |_=>true
theorem GH{d:Datum}(h:isNum d=true):oP (double.write d):=by
 have e3:double.infRung=9218868437227405312:=by decide
 cases d with
 |number s m p=>exact IA s m p
 |infinity s=>exact EU s (by rw[e3];exact Nat.le_refl _)
 |nan s t=>cases h
theorem A3{x:Nat}(h:oP x):isNum (eQ x)=true:=by
 obtain⟨_,h⟩:=h;unfold eQ;split;rfl;split;rfl;split;rfl;omega
theorem Kd{x:Nat}(hx:x<18446744073709551616)(h:(cf x x != some .eq)=false):oP x:=by
 refine⟨hx,?_⟩;rcases Nat.lt_or_ge 9218868437227405312 (x%9223372036854775808)with h1|h1;exfalso;rw[A4]at h;unfold eQ at h;rw[if_neg (by omega),if_neg (by omega),if_neg (by omega)]at h;exact absurd h (by simp[Datum.order]);exact h1
def oQ:Datum->Bool
 |.number .. =>true
 |_=>false
theorem GI{a b:Datum}(ha:oQ a=true)(hb:oQ b=true):∃d,a.product b=some d/\isNum d=true:=by
 cases a<;>cases b<;>simp[oQ]at ha hb;exact⟨_,rfl,rfl⟩
theorem Z4{x y:Nat}(hx:oQ (eQ x)=true)(hy:oQ (eQ y)=true):∃r,FloatKind.f64.format.mul x y=some r/\oP r:=by
 obtain⟨d,h1,h2⟩:=GI hx hy;refine⟨double.write d,?_,GH h2⟩;show((FloatKind.f64.format.read x).product (FloatKind.f64.format.read y)).map _=_;rw[tT,tT,h1];rfl
theorem P3{x:Nat}(h:x%9223372036854775808<9218868437227405312):oQ (eQ x)=true:=by
 unfold eQ;split;rfl;rfl
def tj(l:Nat):Nat:=double.write ((eQ l).integral .even)
theorem GJ{l:Nat}(h:oP l):oP (tj l):=by
 have h1:=A3 h;refine GH ?_;generalize eQ l=d at *;cases d with
 |number s m p=>rfl
 |infinity s=>rfl
 |nan s t=>cases h1
theorem EV{l:Nat}(h:oP l):Extern.MathFloor.toIntegral "math.RoundToEven" .even #[.float .f64 l]=pure (.float .f64 (tj l)):=by
 have h1:=A3 h;have h2:FloatKind.f64.decode l=eQ l:=tT l
 conv=>lhs;unfold Extern.MathFloor.toIntegral;whnf
 rw[h2];unfold tj;generalize eQ l=d at *;cases d with
 |number s m p=>rfl
 |infinity s=>rfl
 |nan s t=>cases h1
theorem MB{l:Nat}(h:oP l)(w:World):(callFunc 190 #[.float .f64 l]).run Tryz.prog w = .ok (.value (.float .f64 (tj l))) w:=by
 rw[run_callFunc_extern Tryz.func190 (by kernel_rfl) (by kernel_rfl) (by kernel_rfl) (e:=Extern.MathFloor.toIntegral "math.RoundToEven" .even) (by kernel_rfl),EV h];rfl
end
section
open Go.RowKit Go Ieee
def jQ(y k:Nat):Nat:=y/9223372036854775808*9223372036854775808+y%4503599627370496+k*4503599627370496
theorem EW{y:Nat}(hy:y<18446744073709551616):bits .andNot .u64 (y:Int) 9218868437227405312=(jQ y 0:Int):=by
 have h1:(BitVec.ofInt 64 (y:Int)).toNat=y:=by
   rw[BitVec.ofInt_natCast,BitVec.toNat_ofNat];exact Nat.mod_eq_of_lt (by omega)
 show IntKind.u64.wrap ((BitVec.ofInt 64 (y:Int) &&& ~~~ BitVec.ofInt 64 9218868437227405312).toNat:Int)=_;have h2:(~~~ BitVec.ofInt 64 9218868437227405312).toNat=9227875636482146303:=by decide
 have h3:y &&& 9227875636482146303=jQ y 0:=by
   refine Nat.eq_of_testBit_eq fun i=>?_;have e1:jQ y 0=2 ^ 52*(2048*(y/9223372036854775808))+y%2 ^ 52:=by unfold jQ;omega
   have e2:(9227875636482146303:Nat)=2 ^ 52*(2 ^ 11*1+0)+(2 ^ 52-1):=by decide
   have e3:2048*(y/9223372036854775808)=2 ^ 11*(y/9223372036854775808)+0:=by omega
   rw[e1,e2,Nat.testBit_and,Nat.testBit_two_pow_mul_add _ (by omega),Nat.testBit_two_pow_mul_add _ (Nat.mod_lt _ (by decide)),Nat.testBit_mod_two_pow,Nat.testBit_two_pow_sub_one,e3,Nat.testBit_two_pow_mul_add _ (by omega),Nat.testBit_two_pow_mul_add _ (by omega)];by_cases hi:i<52;simp[hi];simp only[hi,if_false];by_cases hj:i-52<11;simp[hj];simp only[hj,if_false];have:y/9223372036854775808<2:=by omega
   have e4:y.testBit i=(y/9223372036854775808).testBit (i-52-11):=by
     rw[show(9223372036854775808:Nat)=2 ^ 63 from rfl,Nat.testBit_div_two_pow];congr 1;omega
   rw[e4];have hv:y/9223372036854775808=0\/y/9223372036854775808=1:=by omega
   rcases hv with e|e<;>rw[e]<;>simp
 rw[BitVec.toNat_and,h1,h2,h3,IntKind.wrap_u64];unfold jQ;omega
theorem GK{y k:Nat}(hy:y<18446744073709551616)(hk:k<2048):bits .or .u64 (bits .andNot .u64 (y:Int) 9218868437227405312) ((k:Int)*4503599627370496)=(jQ y k:Int):=by
 rw[EW hy,show((k:Int)*4503599627370496)=((k*4503599627370496:Nat):Int)by omega,bits_or_u64_nat _ _ (by unfold jQ;omega) (by omega)];congr 1;refine Nat.eq_of_testBit_eq fun i=>?_;have e1:jQ y k=2 ^ 52*(2 ^ 11*(y/9223372036854775808)+k)+y%2 ^ 52:=by unfold jQ;omega
 have e0:jQ y 0=2 ^ 52*(2 ^ 11*(y/9223372036854775808)+0)+y%2 ^ 52:=by unfold jQ;omega
 have e2:k*4503599627370496=2 ^ 52*k+0:=by omega
 have hm:y%2 ^ 52<2 ^ 52:=Nat.mod_lt _ (by decide);have t0:=Nat.testBit_two_pow_mul_add (2 ^ 11*(y/9223372036854775808)+0) hm i;have t1:=Nat.testBit_two_pow_mul_add (2 ^ 11*(y/9223372036854775808)+k) hm i;have t2:=Nat.testBit_two_pow_mul_add k (show 0<2 ^ 52 by decide) i;rw[e1,e0,e2,Nat.testBit_or,t0,t1,t2];by_cases hi:i<52;simp[hi];rw[if_neg hi,if_neg hi,if_neg hi];have s0:=Nat.testBit_two_pow_mul_add (y/9223372036854775808) (show 0<2 ^ 11 by decide) (i-52);have s1:=Nat.testBit_two_pow_mul_add (y/9223372036854775808) (show k<2 ^ 11 by omega) (i-52);rw[s0,s1];by_cases hj:i-52<11;simp[hj];have:k.testBit (i-52)=false:=Nat.testBit_lt_two_pow (Nat.lt_of_lt_of_le (show k<2 ^ 11 by omega) (Nat.pow_le_pow_right (by omega) (by omega)));simp[hj,this]
theorem Dd{y k:Nat}(hk:k<=2046):oQ (eQ (jQ y k))=true:=P3 (by unfold jQ;omega)
theorem P4{y:Nat}(hy:y<18446744073709551616):bits .and .i64 ((y:Int)/4503599627370496) 2047=((y/4503599627370496%2048:Nat):Int):=by
 have Vq:(BitVec.ofInt 64 2047).toNat=2 ^ 11-1:=by decide
 have key:(BitVec.ofInt 64 ((y:Int)/4503599627370496) &&& BitVec.ofInt 64 2047).toNat=(((y:Int)/4503599627370496)%((2 ^ 64:Nat):Int)).toNat%2 ^ 11:=by
   rw[BitVec.toNat_and,BitVec.toNat_ofInt,Vq,Nat.and_two_pow_sub_one_eq_mod]
 show IntKind.i64.wrap ((BitVec.ofInt 64 ((y:Int)/4503599627370496) &&& BitVec.ofInt 64 2047).toNat:Nat)=_;rw[key,IntKind.wrap_i64];omega
def mulN(x y:Nat):Nat:=(FloatKind.f64.format.mul x y).getD 0
theorem EX{x y:Nat}(hx:oQ (eQ x)=true)(hy:oQ (eQ y)=true):FloatKind.f64.format.mul x y=some (mulN x y)/\oP (mulN x y):=by
 obtain⟨r,h1,h2⟩:=Z4 hx hy;unfold mulN;rw[h1];exact⟨rfl,h2⟩
theorem Vr{x:Nat}(hx:x<18446744073709551616)(h1:(cf (gR x) 9218868437227405311==some .gt)=false)(h2:(cf x x != some .eq)=false):oQ (eQ x)=true:=by
 have h:=Kd hx h2;refine P3 ?_;have:=h.2;rcases Nat.lt_or_ge (x%9223372036854775808) 9218868437227405312 with h3|h3;exact h3;exfalso;have e:gR x=9218868437227405312:=by unfold gR;omega
 rw[e]at h1;exact absurd h1 (by decide)
def oR(x:Nat):Nat×Int:=if(cf (gR x) 4503599627370496==some .lt)=true then(mulN x 4841369599423283200,-52)else(x,0)
def ldE(x:Nat)(n:Int):Int:=n+(oR x).2+(((oR x).1/4503599627370496%2048:Nat)-1023)
def Z5(x:Nat)(n:Int):Nat:=
 if(cf x 0==some .eq)=true then x
 else if ldE x n < -1075 then Cc (oR x).1
 else if 1023<ldE x n then(if(cf (oR x).1 0==some .lt)=true then 18442240474082181120 else 9218868437227405312)
 else if -1022<=ldE x n then mulN 4607182418800017408 (jQ (oR x).1 (ldE x n+1023).toNat)
 else mulN 4368491638549381120 (jQ (oR x).1 (ldE x n+53+1023).toNat)
theorem P5{x:Nat}(hx:x<18446744073709551616)(hf:oQ (eQ x)=true):(oR x).1<18446744073709551616/\((oR x).2=0\/(oR x).2 = -52)/\∀w,Calls Tryz.prog 259 #[.float .f64 x] w fun z w'=>z = .returned (.tuple #[.float .f64 (oR x).1,.int .i64 (oR x).2])/\w'=w:=by
 unfold oR;by_cases h:(cf (gR x) 4503599627370496==some .lt)=true;obtain⟨h1,h2⟩:=EX hf (show oQ (eQ 4841369599423283200)=true by decide);rw[if_pos h];exact⟨h2.1,.inr rfl,fun w=>ze x _ w hx h h1⟩;rw[if_neg h];exact⟨hx,.inl rfl,fun w=>zd x w hx (Bool.eq_false_iff.2 h)⟩
theorem P6(x:Nat)(n:Int)(hx:x<18446744073709551616)(iq:0<=n)(fP:n<=32)(h1:(cf (gR x) 9218868437227405311==some .gt)=false)(h2:(cf x x != some .eq)=false) :
   oP (Z5 x n)/\∀w,Calls Tryz.prog 231 #[.float .f64 x,.int .i64 n] w fun z w'=>z = .returned (.float .f64 (Z5 x n))/\w'=w:=by
 have hf:=Vr hx h1 h2;unfold Z5;by_cases h0:(cf x 0==some .eq)=true;rw[if_pos h0];exact⟨Kd hx h2,fun w=>Iz x n w hx iq fP h0⟩;rw[if_neg h0];have h0:=Bool.eq_false_iff.2 h0;obtain⟨hy,he,hN⟩:=P5 hx hf;have hq:=P4 hy;unfold ldE;generalize(oR x).1=y at *;generalize(oR x).2=e at *;have Hf:y/4503599627370496%2048<=2047:=by omega
 generalize hqe:y/4503599627370496%2048=q at *;have L:=fun(w:World)=>@Mu x n w hx iq fP y q e hy he Hf hq hN h0 h1 h2;by_cases c1:n+e+((q:Int)-1023) < -1075;rw[if_pos c1];refine⟨⟨?_,?_⟩,fun w=>L w c1⟩<;>unfold Cc<;>omega;rw[if_neg c1];by_cases c2:1023<n+e+((q:Int)-1023);rw[if_pos c2];by_cases c3:(cf y 0==some .lt)=true;rw[if_pos c3];exact⟨⟨by decide,by decide⟩,fun w=>@Mv x n w hx iq fP y q e hy he Hf hq hN h0 h1 h2 c2 c3⟩;rw[if_neg c3];exact⟨⟨by decide,by decide⟩,fun w=>@Mw x n w hx iq fP y q e hy he Hf hq hN h0 h1 h2 c2 (Bool.eq_false_iff.2 c3)⟩;rw[if_neg c2];by_cases c4: -1022<=n+e+((q:Int)-1023);rw[if_pos c4];obtain⟨k,hk⟩:∃k:Nat,n+e+((q:Int)-1023)+1023=k:=⟨(n+e+((q:Int)-1023)+1023).toNat,by omega⟩;rw[hk,Int.toNat_natCast];have hz:=GK hy (show k<2048 by omega);obtain⟨hr,TF⟩:=EX (show oQ (eQ 4607182418800017408)=true by decide) (Dd (y:=y) (show k<=2046 by omega));exact⟨TF,fun w=>@Mx x n w hx iq fP y q e hy he Hf hq hN h0 h1 h2 k _ _ hk (by omega) (by omega) hz hr⟩;rw[if_neg c4];obtain⟨k,hk⟩:∃k:Nat,n+e+((q:Int)-1023)+53+1023=k:=⟨(n+e+((q:Int)-1023)+53+1023).toNat,by omega⟩;rw[hk,Int.toNat_natCast];have hz:=GK hy (show k<2048 by omega);obtain⟨hr,TF⟩:=EX (show oQ (eQ 4368491638549381120)=true by decide) (Dd (y:=y) (show k<=2046 by omega));exact⟨TF,fun w=>@My x n w hx iq fP y q e hy he Hf hq hN h0 h1 h2 k _ _ hk (by omega) (by omega) hz hr⟩
end
section
open Go.RowKit Go Ieee
theorem IB(r:Nat):double.word false r=r:=rfl
theorem IC{d b:Nat}(hd:d<=1074)(lI:4503599627370496<=b)(xh:b<9007199254740992):eQ (d*4503599627370496+b) = .number false b (-1074+(d:Int)):=by
 have h1:(d*4503599627370496+b)%9223372036854775808=d*4503599627370496+b:=Nat.mod_eq_of_lt (by omega);have h2:(d*4503599627370496+b)/9223372036854775808=0:=Nat.div_eq_of_lt (by omega);have h3:(d*4503599627370496+b)%4503599627370496=b-4503599627370496:=by omega
 have h4:(d*4503599627370496+b)/4503599627370496=d+1:=by omega
 unfold eQ;rw[h1,h2,if_neg (by omega),if_pos (by omega),h3,h4,Nat.add_sub_cancel,show 4503599627370496+(b-4503599627370496)=b by omega];rfl
theorem P7(k:Nat):Toward.even.cut false k 0=k:=by
 unfold Toward.cut;simp[Nat.mod_one]
theorem ID{m L u:Nat}(h0:m≠0)(hL:m.log2=L)(hu:L+u=52):double.nearest false m 0=min ((1074-u)*4503599627370496+m*2 ^ u) 9218868437227405312:=by
 have e2:double.binade=4503599627370496:=by decide
 have e3:double.infRung=9218868437227405312:=by decide
 have e4:double.leastPlace = -1074:=by decide
 have e5:(double.fractionBits:Int)=52:=by decide
 have ady:max ((0:Int)+L-52) (-1074) = -(u:Int):=by omega
 unfold Format.nearest;rw[if_neg h0,IB];simp only[hL,e2,e3,e4,e5,ady];have Fi:((0:Int) - -(u:Int)).toNat=u:=by omega
 have LL:(-(u:Int)-0).toNat=0:=by omega
 have ht:(-(u:Int) - -1074).toNat=1074-u:=by omega
 rw[Fi,LL,ht,P7,Nat.shiftLeft_eq]
theorem GL{m L u:Nat}(h0:m≠0)(hL:m.log2=L)(hu:L+u=52):4503599627370496<=m*2 ^ u/\m*2 ^ u<9007199254740992:=by
 have Ct:2 ^ L<=m:=by rw[<- hL];exact Nat.log2_self_le h0
 have zH:m<2 ^ (L+1):=by rw[<- hL];exact Nat.lt_log2_self
 have h1:2 ^ L*2 ^ u<=m*2 ^ u:=Nat.mul_le_mul_right _ Ct;have h2:m*2 ^ u<2 ^ (L+1)*2 ^ u:=Nat.mul_lt_mul_of_pos_right zH (Nat.two_pow_pos u);rw[<- Nat.pow_add,hu]at h1;rw[<- Nat.pow_add,show L+1+u=53 by omega]at h2;exact⟨h1,h2⟩
theorem of_int(m:Nat):floatOfInt .f64 (m:Int)=double.nearest false m 0:=by
 show double.nearest (decide ((m:Int)<0)) (m:Int).natAbs 0=_;rw[decide_eq_false (by omega),Int.natAbs_natCast]
theorem Z6{m:Nat}(hm:m<9007199254740992):∃(b:Nat) (u:Nat),eQ (floatOfInt .f64 (m:Int)) = .number false b (-(u:Int))/\b=m*2 ^ u:=by
 rw[of_int];rcases Nat.eq_zero_or_pos m with h0|h0;subst h0;obtain⟨u,hu⟩:∃u:Nat,u=1074:=⟨_,rfl⟩;exact⟨0,u,by subst hu;decide,(Nat.zero_mul _).symm⟩;have hl3:m.log2<53:=(Nat.log2_lt (by omega)).2 hm;obtain⟨u,hu⟩:∃u:Nat,m.log2+u=52:=⟨52-m.log2,by omega⟩;obtain⟨h1,h2⟩:=GL (by omega) rfl hu;rw[ID (by omega) rfl hu];have hd:1074-u<=1074:=Nat.sub_le ..;have hd2:(1074-u:Nat)=1074-(u:Int):=by omega
 generalize 1074-u=d at *;refine⟨m*2 ^ u,u,?_,rfl⟩;generalize m*2 ^ u=b at *;rw[Nat.min_eq_left (by omega),IC hd h1 h2];congr 1;omega
theorem P8(x:Nat):eQ (gR x)=match eQ x with
   |.number _ m p=>.number false m p
   |.infinity _=>.infinity false
   |.nan _ t=>.nan false t:=by
 have h1:gR x%9223372036854775808=x%9223372036854775808:=by unfold gR;omega
 have h2:gR x/9223372036854775808=0:=by unfold gR;omega
 unfold eQ;rw[h1,h2];split;rfl;split;rfl;split<;>rfl
theorem Z7{a b:Nat}(h:(some (compare (signed false a 0) (signed false b 0))==some Ordering.gt)=false):a<=b:=by
 rcases Nat.lt_or_ge b a with h1|h1;exfalso;have:compare (signed false a 0) (signed false b 0) = .gt:=by
   rw[gY,gY,Nat.shiftLeft_zero,Nat.shiftLeft_zero];exact Int.compare_eq_gt.2 (by omega)
 rw[this]at h;exact absurd h (by decide);exact h1
theorem De(a u:Nat):signed false a u=signed false (a*2 ^ u) 0:=by
 rw[gY,gY,Nat.shiftLeft_zero,Nat.shiftLeft_eq]
theorem Z8{a m u:Nat}{p:Int}(h:(Datum.order (.number false a p) (.number false (m*2 ^ u) (-(u:Int)))==some Ordering.gt)=false)(s:Bool):Toward.zero.cut s (a <<< p.toNat) (-p).toNat<=m:=by
 have hk:∀n d,Toward.zero.cut s n d=n/2 ^ (min d (n.log2+2)):=by
   intro n d;unfold Toward.cut;simp only[Bool.toNat_false,Nat.add_zero,Nat.shiftLeft_eq,Nat.one_mul]
 rw[hk,Nat.shiftLeft_eq];simp only[Datum.order]at h;rw[De,De (m*2 ^ u)]at h;have h:=Z7 h;by_cases hp:0<=p;obtain⟨i,rfl⟩:∃i:Nat,p=i:=⟨p.toNat,by omega⟩;have e1:((i:Int)-min (i:Int) (-(u:Int))).toNat=i+u:=by omega
 have e2:(-(u:Int)-min (i:Int) (-(u:Int))).toNat=0:=by omega
 rw[e1,e2,Nat.pow_zero,Nat.mul_one,Nat.pow_add,<- Nat.mul_assoc]at h;have e3:(-(i:Int)).toNat=0:=by omega
 rw[e3,Nat.zero_min,Nat.pow_zero,Nat.div_one,Int.toNat_natCast];exact Nat.le_of_mul_le_mul_right h (Nat.two_pow_pos _);obtain⟨i,rfl⟩:∃i:Nat,p = -(i:Int):=⟨(-p).toNat,by omega⟩;have e3:(-(i:Int)).toNat=0:=by omega
 have e4:(- -(i:Int)).toNat=i:=by omega
 rw[e3,e4,Nat.pow_zero,Nat.mul_one];have hle:a<=m*2 ^ i:=by
   rcases Nat.le_total i u with hiu|hiu;have e1:(-(i:Int)-min (-(i:Int)) (-(u:Int))).toNat=u-i:=by omega
   have e2:(-(u:Int)-min (-(i:Int)) (-(u:Int))).toNat=0:=by omega
   rw[e1,e2,Nat.pow_zero,Nat.mul_one]at h;have e5:m*2 ^ u=(m*2 ^ i)*2 ^ (u-i):=by
     rw[Nat.mul_assoc,<- Nat.pow_add];congr 2;omega
   rw[e5]at h;exact Nat.le_of_mul_le_mul_right h (Nat.two_pow_pos _);have e1:(-(i:Int)-min (-(i:Int)) (-(u:Int))).toNat=0:=by omega
   have e2:(-(u:Int)-min (-(i:Int)) (-(u:Int))).toNat=i-u:=by omega
   rw[e1,e2,Nat.pow_zero,Nat.mul_one,Nat.mul_assoc,<- Nat.pow_add,show u+(i-u)=i by omega]at h;exact h
 rcases Nat.le_total i (a.log2+2)with hi|hi;rw[Nat.min_eq_left hi];exact Nat.div_le_of_le_mul (by rw[Nat.mul_comm];exact hle);rw[Nat.min_eq_right hi];have h1:a<2 ^ (a.log2+1):=Nat.lt_log2_self;have h2:2 ^ (a.log2+1)<=2 ^ (a.log2+2):=Nat.pow_le_pow_right (by omega) (by omega);rw[Nat.div_eq_of_lt (by omega)];exact Nat.zero_le _
def P9(x:Nat):Int:=((eQ x).toInt .zero).getD 0
theorem P'{nr m:Nat}(h0:oP nr)(hm:m<=1099511627776)(h:(cf (gR nr) (floatOfInt .f64 (m:Int))==some .gt)=false) :
   floatToIntVal .f64 nr .i64=some (P9 nr)/\-(m:Int)<=P9 nr/\P9 nr<=m:=by
 obtain⟨b,u,hb,rfl⟩:=Z6 (m:=m) (by omega);rw[A4,hb,P8]at h;have h1:=A3 h0;have hd:FloatKind.f64.decode nr=eQ nr:=tT nr;unfold floatToIntVal;rw[hd];unfold P9;have Gd:IntKind.i64.min = -9223372036854775808:=by decide
 have Z9:IntKind.i64.max=9223372036854775807:=by decide
 generalize eQ nr=d at *;cases d with
 | number s a p=>
   have hc:=Z8 h s;simp only[Datum.toInt,Datum.integral];generalize Toward.zero.cut s (a <<< p.toNat) (-p).toNat=k at *;have hv:signed s k 0=k\/signed s k 0 = -(k:Int):=by
     cases s;left;rw[gY,Nat.shiftLeft_zero];right;rw[yH,Nat.shiftLeft_zero]
   generalize signed s k 0=v at *;rw[Gd,Z9,if_pos (by omega)];refine⟨rfl,?_⟩;show -(m:Int)<=v/\v<=m;omega
 |infinity s=>exact absurd h (by simp[Datum.order])
 |nan s t=>cases h1
end
section
open Go.Sx Go.RowKit Go
def iV(x top:Nat):Int×Int:=
 if(cf x x != some .eq)=true then(0,2)
 else if(cf x 0==some .lt||cf x 0==some .eq)=true then(0,0)
 else if(cf x 4607182418800017408==some .gt||cf x 4607182418800017408==some .eq)=true then(top,0)
 else if 128<=1075-x/4503599627370496 then(0,0)
 else(((uH x*top/2 ^ (1075-x/4503599627370496):Nat):Int),0)
theorem Te(x top:Nat)(w:World)(hx:x<18446744073709551616)(h0:top<=16777216):Calls Tryz.prog 87 #[.float .f64 x,.int .i64 top] w fun e w'=>e = .returned (.tuple #[.int .i64 (iV x top).1,.int .i64 (iV x top).2])/\w'=w:=by
 unfold iV;by_cases h1:(cf x x != some .eq)=true;rw[if_pos h1];exact Ta x top w hx h0 h1;rw[if_neg h1];have h1:=yW.2 h1;by_cases h2:(cf x 0==some .lt||cf x 0==some .eq)=true;rw[if_pos h2];exact Tb x top w hx h0 h1 h2;rw[if_neg h2];have h2:=yW.2 h2;by_cases h3:(cf x 4607182418800017408==some .gt||cf x 4607182418800017408==some .eq)=true;rw[if_pos h3];exact M4 x top w hx h0 h1 h2 h3;rw[if_neg h3];have h3:=yW.2 h3;have hq:=Br hx h1 h2 h3;by_cases h4:128<=1075-x/4503599627370496;rw[if_pos h4];exact M5 x top w hx h0 h1 h2 h3 (1075-x/4503599627370496) (by omega) h4;rw[if_neg h4];rcases mS (1075-x/4503599627370496) 64 with h5|h5;exact Tc x top w hx h0 h1 h2 h3 (1075-x/4503599627370496) (by omega) (by omega) (by omega);exact Td x top w hx h0 h1 h2 h3 (1075-x/4503599627370496) (by omega) h5 (by omega)
theorem Ws{x top:Nat}(hx:x<18446744073709551616)(h0:top<=16777216):(0<=(iV x top).1/\(iV x top).1<=top)/\0<=(iV x top).2/\(iV x top).2<=12:=by
 unfold iV;split;simp;split;simp;split;simp;rename_i h1 h2 h3;have hq:=Br hx (yW.2 h1) (yW.2 h2) (yW.2 h3);split;simp;refine⟨⟨Int.natCast_nonneg _,?_⟩,by simp,by simp⟩;have h:uH x*top/2 ^ (1075-x/4503599627370496)<=top:=by
   refine Nat.div_le_of_le_mul ?_;have hf:=wL x;have hp:2 ^ 53<=2 ^ (1075-x/4503599627370496):=Nat.pow_le_pow_right (by omega) (by omega);exact xf _ (kL (Nat.le_of_lt hf) hp)
 exact Int.ofNat_le.2 h
def Wt:List DV->Option (List DV)
 | [.i x,.i top]=>if Nl x&&(decide (0<=top)&&decide (top<=16777216))then some [.i (iV x.toNat top.toNat).1,.i (iV x.toNat top.toNat).2]else none
 |_=>none
theorem afM{Wd:World->Prop}:Has Tryz.prog Wd 87 (EO Wp Wt):=by
 unfold Has;refine .inl ⟨fun w args=>dQ Tryz.func87 rfl rfl w args,fun w vs ds hw ha hp=>?_⟩;obtain⟨rs,_,hx⟩:=hp;obtain⟨bT,rfl,hf⟩:=ha;unfold Wt at hx;split at hx;rename_i x top;split at hx;rename_i hc;cases hx;have CN:=hc;simp only[ao,aC]at CN
 match bT,hf with
 | [a,b],hf=>
   obtain⟨ha,hb,_⟩:=hf;simp only[ky]at ha hb;subst ha;subst hb;obtain⟨m,rfl,hm⟩:=vq CN.1;obtain⟨n,rfl⟩:∃n:Nat,top=n:=⟨top.toNat,by omega⟩;refine(Te m n w hm (by omega)).mono ?_;rintro e w' ⟨rfl,rfl⟩;refine⟨[.int .i64 (iV m n).1,.int .i64 (iV m n).2],[.i (iV m n).1,.i (iV m n).2],rfl,Below.refl _ _,⟨rfl,rfl,trivial⟩,ER,?_⟩;show Wt _=_;simp only[Wt,hc,if_true,qm]
 cases hx;cases hx
variable {X:bH}
theorem anu:lZ Tryz.prog kH 87=none:=by kernel_rfl
theorem k87:kc 87=⟨[.i 0 18446744073709551615,.i 0 16777216],[],[.i 0 16777216,.i 0 12],[.le (rr 0) (.v 1)]⟩:=by kernel_rfl
theorem g87(hX:X 87=Wt):mb (lZ Tryz.prog kH) X 87 (kc 87).gN (kc 87).ij:=by
 rw[k87];rintro ds ⟨ha,_⟩
 match ds,ha with
 | [.i x,.i top],ha=>
   have hx:0<=x/\x<=18446744073709551615:=ha.1;have ht:0<=top/\top<=16777216:=ha.2.1;obtain⟨⟨u0,u1⟩,u2,u3⟩:=Ws (x:=x.toNat) (top:=top.toNat) (by omega) (by omega);refine⟨[.i (iV x.toNat top.toNat).1,.i (iV x.toNat top.toNat).2],ji anu ?_,⟨⟨u0,by omega⟩,⟨u2,u3⟩,trivial⟩,fun p hp=>?_⟩;rw[hX];simp only[Wt,rh hx,Bool.true_and];rw[if_pos];simp only[ao,aC];exact ht;obtain rfl:p = .le (rr 0) (.v 1):=by simpa using hp
   have q0:fU [.i x,.i top] [.i (iV x.toNat top.toNat).1,.i (iV x.toNat top.toNat).2] R0 = .i (iV x.toNat top.toNat).1:=by
     have:=az.c8 (ae:=aR.av 0 [DV.i x,DV.i top]) (k:=R0) (ds:=[DV.i (iV x.toNat top.toNat).1,DV.i (iV x.toNat top.toNat).2]) (i:=0) rfl;exact this
   have q1:fU [.i x,.i top] [.i (iV x.toNat top.toNat).1,.i (iV x.toNat top.toNat).2] 1 = .i top:=by
     rw[fU,az.bd (by unfold R0;omega)];exact az.c8 (ae:=aR) (k:=0) (ds:=[DV.i x,DV.i top]) (i:=1) rfl
   simp only[BE.af,IE.af,rr,gP,q0,q1,DV.int,aC];omega
end
section
open Go.Sx Go.RowKit Go
def fJ(x:Nat)(n m:Int):Int×Int:=
 if(cf x x != some .eq)=true then(0,2)
 else if(cf (gR x) 9218868437227405311==some .gt)=true then(0,3)
 else if(cf (gR (tj (Z5 x n))) (floatOfInt .f64 m)==some .gt)=true then(0,4)
 else(P9 (tj (Z5 x n)),0)
theorem MC(x:Nat)(n m:Int)(w:World)(hx:x<18446744073709551616)(iq:0<=n)(fP:n<=32)(tB:0<=m)(vB:m<=1099511627776):Calls Tryz.prog 146 #[.float .f64 x,.int .i64 n,.int .i64 m] w fun e w'=>e = .returned (.tuple #[.int .i64 (fJ x n m).1,.int .i64 (fJ x n m).2])/\w'=w:=by
 unfold fJ;by_cases h1:(cf x x != some .eq)=true;rw[if_pos h1];exact Mz x n m w hx iq fP tB vB h1;rw[if_neg h1];have h1:=yW.2 h1;by_cases h2:(cf (gR x) 9218868437227405311==some .gt)=true;rw[if_pos h2];exact MA x n m w hx iq fP tB vB h1 h2;rw[if_neg h2];have h2:=yW.2 h2;obtain⟨hl,hL⟩:=P6 x n hx iq fP h2 h1;have hr:=GJ hl;have hR:=fun w=>MB hl w;by_cases h3:(cf (gR (tj (Z5 x n))) (floatOfInt .f64 m)==some .gt)=true;rw[if_pos h3];exact GG x n m w hx iq fP tB vB _ _ hl.1 hr.1 h1 h2 hL hR h3;rw[if_neg h3];have h3:=yW.2 h3;obtain⟨k,rfl⟩:∃k:Nat,m=k:=⟨m.toNat,by omega⟩;obtain⟨hv,_⟩:=P' hr (by omega) h3;exact P2 x n k w hx iq fP tB vB _ _ hl.1 hr.1 h1 h2 hL hR _ h3 hv
theorem Qa{x:Nat}{n m:Int}(hx:x<18446744073709551616)(iq:0<=n)(fP:n<=32)(tB:0<=m)(vB:m<=1099511627776):(-m<=(fJ x n m).1/\(fJ x n m).1<=m)/\0<=(fJ x n m).2/\(fJ x n m).2<=12:=by
 unfold fJ;by_cases h1:(cf x x != some .eq)=true;rw[if_pos h1];exact⟨⟨by omega,tB⟩,by decide,by decide⟩;rw[if_neg h1];have h1:=yW.2 h1;by_cases h2:(cf (gR x) 9218868437227405311==some .gt)=true;rw[if_pos h2];exact⟨⟨by omega,tB⟩,by decide,by decide⟩;rw[if_neg h2];have h2:=yW.2 h2;obtain⟨hl,hL⟩:=P6 x n hx iq fP h2 h1;have hr:=GJ hl;by_cases h3:(cf (gR (tj (Z5 x n))) (floatOfInt .f64 m)==some .gt)=true;rw[if_pos h3];exact⟨⟨by omega,tB⟩,by decide,by decide⟩;rw[if_neg h3];have h3:=yW.2 h3;obtain⟨k,rfl⟩:∃k:Nat,m=k:=⟨m.toNat,by omega⟩;obtain⟨_,hv⟩:=P' hr (by omega) h3;exact⟨hv,Int.le_refl _,by show(0:Int)<=12;decide⟩
def EY:List DV->Option (List DV)
 | [.i x,.i n,.i m]=>if Nl x&&((decide (0<=n)&&decide (n<=32))&&(decide (0<=m)&&decide (m<=1099511627776)))then some [.i (fJ x.toNat n m).1,.i (fJ x.toNat n m).2]else none
 |_=>none
theorem Z'{Wd:World->Prop}:Has Tryz.prog Wd 146 (EO Ke EY):=by
 unfold Has;refine .inl ⟨fun w args=>dQ Tryz.func146 rfl rfl w args,fun w vs ds hw ha hp=>?_⟩;obtain⟨rs,_,hx⟩:=hp;obtain⟨bT,rfl,hf⟩:=ha;unfold EY at hx;split at hx;rename_i x n m;split at hx;rename_i hc;cases hx;have CN:=hc;simp only[ao,aC]at CN
 match bT,hf with
 | [a,b,c],hf=>
   obtain⟨ha,hb,hcc,_⟩:=hf;simp only[ky]at ha hb hcc;subst ha;subst hb;subst hcc;obtain⟨k,rfl,hm⟩:=vq CN.1;refine(MC k n m w hm CN.2.1.1 CN.2.1.2 CN.2.2.1 CN.2.2.2).mono ?_;rintro e w' ⟨rfl,rfl⟩;refine⟨[.int .i64 (fJ k n m).1,.int .i64 (fJ k n m).2],[.i (fJ k n m).1,.i (fJ k n m).2],rfl,Below.refl _ _,⟨rfl,rfl,trivial⟩,ER,?_⟩;show EY _=_;simp only[EY,hc,if_true,qm]
 cases hx;cases hx
variable {X:bH}
theorem adz:lZ Tryz.prog kH 146=none:=by kernel_rfl
theorem ajJ:kc 146=⟨[.i 0 18446744073709551615,.i 0 32,.i 0 1099511627776],[],[.i (-1099511627776) 1099511627776,.i 0 12],[.le (.sub (.c 0) (.v 2)) (rr 0),.le (rr 0) (.v 2)]⟩:=by kernel_rfl
theorem ajK(hX:X 146=EY):mb (lZ Tryz.prog kH) X 146 (kc 146).gN (kc 146).ij:=by
 rw[ajJ];rintro ds ⟨ha,_⟩
 match ds,ha with
 | [.i x,.i n,.i m],ha=>
   have hx:0<=x/\x<=18446744073709551615:=ha.1;have hn:0<=n/\n<=32:=ha.2.1;have hm:0<=m/\m<=1099511627776:=ha.2.2.1;obtain⟨⟨u0,u1⟩,u2,u3⟩:=Qa (x:=x.toNat) (n:=n) (m:=m) (by omega) hn.1 hn.2 hm.1 hm.2;refine⟨[.i (fJ x.toNat n m).1,.i (fJ x.toNat n m).2],ji adz ?_,⟨⟨by omega,by omega⟩,⟨u2,u3⟩,trivial⟩,fun p hp=>?_⟩;rw[hX];simp only[EY,rh hx,Bool.true_and];rw[if_pos];simp only[ao,aC];exact⟨hn,hm⟩;have q0:fU [.i x,.i n,.i m] [.i (fJ x.toNat n m).1,.i (fJ x.toNat n m).2] R0 = .i (fJ x.toNat n m).1:=by
     have:=az.c8 (ae:=aR.av 0 [DV.i x,DV.i n,DV.i m]) (k:=R0) (ds:=[DV.i (fJ x.toNat n m).1,DV.i (fJ x.toNat n m).2]) (i:=0) rfl;exact this
   have q2:fU [.i x,.i n,.i m] [.i (fJ x.toNat n m).1,.i (fJ x.toNat n m).2] 2 = .i m:=by
     rw[fU,az.bd (by unfold R0;omega)];exact az.c8 (ae:=aR) (k:=0) (ds:=[DV.i x,DV.i n,DV.i m]) (i:=2) rfl
   have xx:p = .le (.sub (.c 0) (.v 2)) (rr 0)\/p = .le (rr 0) (.v 2):=by simpa using hp
   rcases xx with rfl|rfl;simp only[BE.af,IE.af,rr,gP,q0,q2,DV.int,aC];omega;simp only[BE.af,IE.af,rr,gP,q0,q2,DV.int,aC];omega
end
section
open Go.Sx Go.RowKit Go
def XX(f:List DV->Option (List DV)):bH:=fun k ds=>
 if k=283 then xI ds else if k=140 then EM ds else if k=243 then EN ds else if k=266 then A2 ds else if k=87 then Wt ds else if k=146 then EY ds else if k=169 then f ds else none
variable (f:List DV->Option (List DV))
theorem afN:XX f 283=xI:=rfl
theorem afO:XX f 140=EM:=rfl
theorem afP:XX f 243=EN:=rfl
theorem afQ:XX f 266=A2:=rfl
theorem anv:XX f 87=Wt:=rfl
theorem afR:XX f 146=EY:=rfl
theorem XR{k:Nat}(h:Xd k=true):k=283\/k=140\/k=243\/k=266\/k=87\/k=146\/k=169:=by
 obtain⟨x,hx,e⟩:=lT.1 h;have e:=DR e;subst e;simpa[xs]using hx
theorem abE{k:Nat}(h:Xd k=false):k≠283/\k≠140/\k≠243/\k≠266/\k≠87/\k≠146/\k≠169:=by
 refine⟨?_,?_,?_,?_,?_,?_,?_⟩<;>(rintro rfl;exact absurd h (by decide))
theorem Tf:kI 283=some Kt:=by kernel_rfl
theorem Tg:kI 140=some Kc:=by kernel_rfl
theorem Th:kI 243=some Ka:=by kernel_rfl
theorem Ti:kI 266=some Kb:=by kernel_rfl
theorem XS:kI 87=some Wp:=by kernel_rfl
theorem Tj:kI 146=some Ke:=by kernel_rfl
theorem Tk:kI 169=some Bm:=by kernel_rfl
theorem afm(hr:gp)(VA:Has Tryz.prog Wd 169 (EO Bm f))(aaG:∀ds rs,f ds=some rs->kinds (bI Bm.res) rs=true):AF Tryz.prog Wd (TT Tryz.prog) (XX f) Xd kI:=by
 refine abD hr (fun k hk s hs=>?_) (fun k s hk hs ds rs h=>?_) (fun k ds hk=>?_);rcases XR hk with rfl|rfl|rfl|rfl|rfl|rfl|rfl;rw[Tf]at hs;cases hs;exact aar;rw[Tg]at hs;cases hs;exact Z2;rw[Th]at hs;cases hs;exact Z0;rw[Ti]at hs;cases hs;exact Z1;rw[XS]at hs;cases hs;exact afM;rw[Tj]at hs;cases hs;exact Z';rw[Tk]at hs;cases hs;exact VA;rcases XR hk with rfl|rfl|rfl|rfl|rfl|rfl|rfl;rw[Tf]at hs;cases hs;rw[afN]at h;unfold xI at h;split at h;split at h<;>cases h;rfl;cases h;rw[Tg]at hs;cases hs;rw[afO]at h;unfold EM at h;split at h;split at h<;>cases h;rfl;cases h;rw[Th]at hs;cases hs;rw[afP]at h;unfold EN at h;split at h;split at h<;>cases h;rfl;cases h;rw[Ti]at hs;cases hs;rw[afQ]at h;unfold A2 at h;split at h;split at h<;>cases h;rfl;cases h;rw[XS]at hs;cases hs;rw[anv]at h;unfold Wt at h;split at h;split at h<;>cases h;rfl;cases h;rw[Tj]at hs;cases hs;rw[afR]at h;unfold EY at h;split at h;split at h<;>cases h;rfl;cases h;rw[Tk]at hs;cases hs;exact aaG ds rs h;obtain⟨h1,h2,h3,h4,h5,h6,h7⟩:=abE hk;simp only[XX,h1,h2,h3,h4,h5,h6,h7,if_false]
theorem amF(hr:gp):AF Tryz.prog Wd (TT Tryz.prog) (XX fun _=>none) Xd kI:=
 afm _ hr (by
   unfold Has;refine .inl ⟨fun w args=>dQ Tryz.func169 rfl rfl w args,fun w vs ds hw ha hp=>?_⟩;obtain⟨rs,_,hx⟩:=hp;cases hx) (fun ds rs h=>by cases h)
end
end Go.Proofs.YtohebioanhliiaaGreatDoor.aF
