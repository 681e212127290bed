/- Layer 19: points, their boxes. -/
import Derived.Test.YtkoacdplkanhhaaFns
set_option linter.unusedVariables false
set_option linter.unusedSimpArgs false
set_option maxRecDepth 10000
namespace Go.Proofs.Ytkoacdplkanhhaa.Fns
open Go.Sx Go.Proofs.Ytkoacdplkanhhaa.Trees

theorem i_of {a b : Int} (h : [DV.i a] = [DV.i b]) : a = b := by simpa using h
theorem b_of {a b : Bool} (h : [DV.b a] = [DV.b b]) : a = b := by simpa using h
theorem retB {X : Bool} {P : Prop} [Decidable P] (h : X = true ↔ P) : [DV.b X] = [DV.b (decide P)] := by
  by_cases hp : P
  · simp [hp, h.2 hp]
  · simp [hp, Bool.eq_false_iff.2 (fun hx => hp (h.1 hx))]
theorem eqb {p q : Prop} [Decidable p] [Decidable q] (h : p ↔ q) : decide p = decide q := by simp [h]
theorem retI {a b : Int} (h : b = a) : [DV.i a] = [DV.i b] := by rw [h]
theorem retT {P : Prop} [Decidable P] (h : P) : [DV.b true] = [DV.b (decide P)] := by simp [h]
theorem retN {P : Prop} [Decidable P] (h : ¬ P) : [DV.b false] = [DV.b (decide P)] := by simp [h]
theorem h_letE {Γ : Known} {R : List DV → Prop} {env : Env} {F : Nat → List DV → Prop} {t : Tree} {id : Nat} {op : LOp} {M : List (List Int)} (e : op.den env = M) (ht : t.holds Γ R (env.set id (.l M)) F) : (Tree.ev (.letl id op) t).holds Γ R env F := by
  subst e; exact ht
theorem floor_spec {n d : Int} (hd : 0 < d) : (n.tmod d < 0 → n.tdiv d = n / d + 1) ∧ (0 ≤ n.tmod d → n.tdiv d = n / d) := by
  have hs : d.sign = 1 := Int.sign_eq_one_of_pos hd
  rw [Int.tdiv_eq_ediv, Int.tmod_eq_emod, hs]
  have h1 := Int.emod_nonneg n (show d ≠ 0 by omega)
  have h2 := Int.emod_lt_of_pos n hd
  split <;> rename_i h <;> omega
theorem tdiv_le {n d : Int} (hd : 0 < d) (h1 : -4611686018427387904 ≤ n) (h2 : n ≤ 4611686018427387904) : -4611686018427387904 ≤ n.tdiv d ∧ n.tdiv d ≤ 4611686018427387904 := by
  have := Int.natAbs_tdiv_le_natAbs n d
  omega
theorem mul_bd {a b A B : Int} (h1 : -A ≤ a) (h2 : a ≤ A) (h3 : -B ≤ b) (h4 : b ≤ B) : -(A * B) ≤ a * b ∧ a * b ≤ A * B := by
  have e1 := Int.mul_nonneg (show 0 ≤ A - a by omega) (show 0 ≤ B - b by omega)
  have e2 := Int.mul_nonneg (show 0 ≤ A + a by omega) (show 0 ≤ B + b by omega)
  have e3 := Int.mul_nonneg (show 0 ≤ A - a by omega) (show 0 ≤ B + b by omega)
  have e4 := Int.mul_nonneg (show 0 ≤ A + a by omega) (show 0 ≤ B - b by omega)
  constructor <;> grind
def bigP (x : Int) : Prop := -4611686018427387904 ≤ x ∧ x ≤ 4611686018427387904
theorem h_needR {Γ : Known} {R : List DV → Prop} {env : Env} {F : Nat → List DV → Prop} {t : Tree} {e : IE} (n : Int) (hn : e.den env = n) (h : -9223372036854775808 ≤ n ∧ n ≤ 9223372036854775807) (ht : t.holds Γ R env F) :
    (Tree.ev (.need (.and (.le (.c (-9223372036854775808)) e) (.le e (.c 9223372036854775807)))) t).holds Γ R env F := by
  refine h_need ?_ ht
  simp only [BE.den, IE.den, hn, Bool.and_eq_true, decide_eq_true_eq]
  exact h
def in64 (x : Int) : Prop := -9223372036854775808 ≤ x ∧ x ≤ 9223372036854775807
theorem wrap_u64 {x : Int} (h : in64 x) : IntKind.u64.wrap x = if 0 ≤ x then x else x + 18446744073709551616 := by
  unfold in64 at h
  simp [IntKind.wrap, IntKind.signed, IntKind.bits]
  split <;> omega
theorem u64_le {x c : Int} (h : in64 x) (h0 : 0 ≤ c) (h1 : c < 4294967296) : IntKind.u64.wrap x ≤ c ↔ 0 ≤ x ∧ x ≤ c := by
  rw [wrap_u64 h]
  unfold in64 at h
  split <;> omega
theorem i64_neg {x : Int} (h : in64 x) : (max x (IntKind.i64.wrap (0 - x)) ≤ 268435456 ∧ -268435456 ≤ x) ↔ (-268435456 ≤ x ∧ x ≤ 268435456) := by
  rw [IntKind.wrap_i64]
  unfold in64 at h
  omega
def mayP (X Y Z p q r s : Int) : Prop := ((0 ≤ p ∧ p ≤ 255) ∧ (0 ≤ q ∧ q ≤ 255) ∧ (0 ≤ r ∧ r ≤ 255) ∧ (0 ≤ s ∧ s ≤ 255)) ∧ (-268435456 ≤ X ∧ X ≤ 268435456) ∧ (-268435456 ≤ Y ∧ Y ≤ 268435456) ∧ (0 ≤ Z ∧ Z ≤ 16777215)
instance (X Y Z p q r s : Int) : Decidable (mayP X Y Z p q r s) := inferInstanceAs (Decidable (_ ∧ _))
def sizeP (X Y Z p q r s S : Int) : Prop := mayP X Y Z p q r s ∧ 1 ≤ S ∧ S ≤ 64
instance (X Y Z p q r s S : Int) : Decidable (sizeP X Y Z p q r s S) := inferInstanceAs (Decidable (_ ∧ _))
def rightD (X Y Z p q r s S K : Int) : Prop := sizeP X Y Z p q r s S ∧ 0 ≤ K ∧ K ≤ 2
instance (X Y Z p q r s S K : Int) : Decidable (rightD X Y Z p q r s S K) := inferInstanceAs (Decidable (_ ∧ _))
def firstI (u S : Int) : Int := (u + (S + 1) % 2 * 128) / 256 - S / 2
def boxL (X Y Z p q r s S : Int) : List DV := if sizeP X Y Z p q r s S then [.i (firstI X S), .i (firstI Y S), .i (firstI X S + S), .i (firstI Y S + S)] else [.i 0, .i 0, .i 0, .i 0]
def cMay : Contract := CFn sg22 (fun | [.i X, .i Y, .i Z, .i p, .i q, .i r, .i s] => True | _ => False) (fun | [.i X, .i Y, .i Z, .i p, .i q, .i r, .i s] => [.b (decide (mayP X Y Z p q r s))] | _ => [])
def cFits : Contract := CFn sg32 (fun | [.i X, .i Y, .i Z, .i p, .i q, .i r, .i s] => in64 X ∧ in64 Y ∧ in64 Z ∧ in64 p ∧ in64 q ∧ in64 r ∧ in64 s | _ => False) (fun | [.i X, .i Y, .i Z, .i p, .i q, .i r, .i s] => [.b (decide (mayP X Y Z p q r s))] | _ => [])
def c33 : Contract := CFn sg33 (fun | [.i a, .i b, .i c] => a = 0 ∧ b = 1 ∧ c = 0 | _ => False) (fun | [.i a, .i b, .i c] => [.b true] | _ => [])
def c21 : Contract := CFn sg21 (fun | [.i X, .i Y, .i Z, .i p, .i q, .i r, .i s, .i X1, .i Y1, .i Z1, .i p1, .i q1, .i r1, .i s1, .i S, .i a, .i b, .i c] => (X1 = X ∧ Y1 = Y ∧ Z1 = Z ∧ p1 = p ∧ q1 = q ∧ r1 = r ∧ s1 = s) ∧ (a = 0 ∧ b = 1 ∧ c = 0) ∧ in64 X ∧ in64 Y ∧ in64 Z ∧ in64 p ∧ in64 q ∧ in64 r ∧ in64 s | _ => False) (fun | [.i X, .i Y, .i Z, .i p, .i q, .i r, .i s, .i X1, .i Y1, .i Z1, .i p1, .i q1, .i r1, .i s1, .i S, .i a, .i b, .i c] => [.b (decide (sizeP X Y Z p q r s S))] | _ => [])
def cRightD (sg : Sig) : Contract := CFn sg (fun | [.i X, .i Y, .i Z, .i p, .i q, .i r, .i s, .i S, .i K] => (in64 X ∧ in64 Y ∧ in64 Z ∧ in64 p ∧ in64 q ∧ in64 r ∧ in64 s) ∧ in64 S ∧ in64 K | _ => False) (fun | [.i X, .i Y, .i Z, .i p, .i q, .i r, .i s, .i S, .i K] => [.b (decide (rightD X Y Z p q r s S K))] | _ => [])
def cFloor (sg : Sig) : Contract := CFn sg (fun | [.i n, .i d] => 0 < d ∧ bigP n | _ => False) (fun | [.i n, .i d] => [.i (n / d)] | _ => [])
def c23 : Contract := CFn sg23 (fun | [.i u, .i S] => (-268435456 ≤ u ∧ u ≤ 268435456) ∧ 1 ≤ S ∧ S ≤ 64 | _ => False) (fun | [.i u, .i S] => [.i (firstI u S)] | _ => [])
def cBox (sg : Sig) : Contract := CFn sg (fun | [.i X, .i Y, .i Z, .i p, .i q, .i r, .i s, .i S] => (in64 X ∧ in64 Y ∧ in64 Z ∧ in64 p ∧ in64 q ∧ in64 r ∧ in64 s) ∧ in64 S | _ => False) (fun | [.i X, .i Y, .i Z, .i p, .i q, .i r, .i s, .i S] => boxL X Y Z p q r s S | _ => [])
def c16 : Contract := CFn sg16 (fun | [.i X, .i Y, .i Z, .i p, .i q, .i r, .i s, .i S] => sizeP X Y Z p q r s S | _ => False) (fun | [.i X, .i Y, .i Z, .i p, .i q, .i r, .i s, .i S] => [.i (X.tdiv 256 - S - 2), .i (Y.tdiv 256 - S - 2), .i (X.tdiv 256 + S + 3), .i (Y.tdiv 256 + S + 3)] | _ => [])
def c7 : Contract := CFn sg7 (fun | [.i a, .i b, .i c, .i d] => True | _ => False) (fun | [.i a, .i b, .i c, .i d] => [.b (!rightB a b c d || decide (areaR a b c d ≤ 400))] | _ => [])
theorem ok22 : ContractOk Try.prog 22 cMay := by
  refine contract_of (Γ := knownOf []) known_nil Try.func22 rfl rfl is22 fun ds hk hp => ?_
  split at hp
  · skip
    rename_i X Y Z p q r s
    refine h_ite (fun g0 => retN (P := mayP X Y Z p q r s) fun h => ?_) (fun g0 => ?_)
    · simp only [Env.sets, Env.set, BE.den, IE.den, DE.den, DV.int, DV.bool, DV.list, LOp.den, List.map_cons, List.map_nil, Nat.reduceEqDiff, ↓reduceIte, reduceCtorEq, Bool.and_eq_true, Bool.or_eq_true, Bool.not_eq_true', Bool.not_eq_false', Bool.and_eq_false_iff, Bool.or_eq_false_iff, decide_eq_true_eq, decide_eq_false_iff_not] at g0
      unfold mayP at h
      omega
    simp only [Env.sets, Env.set, BE.den, IE.den, DE.den, DV.int, DV.bool, DV.list, LOp.den, List.map_cons, List.map_nil, Nat.reduceEqDiff, ↓reduceIte, reduceCtorEq, Bool.and_eq_true, Bool.or_eq_true, Bool.not_eq_true', Bool.not_eq_false', Bool.and_eq_false_iff, Bool.or_eq_false_iff, decide_eq_true_eq, decide_eq_false_iff_not] at g0
    refine h_ite (fun g1 => retN (P := mayP X Y Z p q r s) fun h => ?_) (fun g1 => ?_)
    · simp only [Env.sets, Env.set, BE.den, IE.den, DE.den, DV.int, DV.bool, DV.list, LOp.den, List.map_cons, List.map_nil, Nat.reduceEqDiff, ↓reduceIte, reduceCtorEq, Bool.and_eq_true, Bool.or_eq_true, Bool.not_eq_true', Bool.not_eq_false', Bool.and_eq_false_iff, Bool.or_eq_false_iff, decide_eq_true_eq, decide_eq_false_iff_not] at g1
      unfold mayP at h
      omega
    simp only [Env.sets, Env.set, BE.den, IE.den, DE.den, DV.int, DV.bool, DV.list, LOp.den, List.map_cons, List.map_nil, Nat.reduceEqDiff, ↓reduceIte, reduceCtorEq, Bool.and_eq_true, Bool.or_eq_true, Bool.not_eq_true', Bool.not_eq_false', Bool.and_eq_false_iff, Bool.or_eq_false_iff, decide_eq_true_eq, decide_eq_false_iff_not] at g1
    refine h_ite (fun g2 => retN (P := mayP X Y Z p q r s) fun h => ?_) (fun g2 => ?_)
    · simp only [Env.sets, Env.set, BE.den, IE.den, DE.den, DV.int, DV.bool, DV.list, LOp.den, List.map_cons, List.map_nil, Nat.reduceEqDiff, ↓reduceIte, reduceCtorEq, Bool.and_eq_true, Bool.or_eq_true, Bool.not_eq_true', Bool.not_eq_false', Bool.and_eq_false_iff, Bool.or_eq_false_iff, decide_eq_true_eq, decide_eq_false_iff_not] at g2
      unfold mayP at h
      omega
    simp only [Env.sets, Env.set, BE.den, IE.den, DE.den, DV.int, DV.bool, DV.list, LOp.den, List.map_cons, List.map_nil, Nat.reduceEqDiff, ↓reduceIte, reduceCtorEq, Bool.and_eq_true, Bool.or_eq_true, Bool.not_eq_true', Bool.not_eq_false', Bool.and_eq_false_iff, Bool.or_eq_false_iff, decide_eq_true_eq, decide_eq_false_iff_not] at g2
    refine h_ite (fun g3 => retN (P := mayP X Y Z p q r s) fun h => ?_) (fun g3 => ?_)
    · simp only [Env.sets, Env.set, BE.den, IE.den, DE.den, DV.int, DV.bool, DV.list, LOp.den, List.map_cons, List.map_nil, Nat.reduceEqDiff, ↓reduceIte, reduceCtorEq, Bool.and_eq_true, Bool.or_eq_true, Bool.not_eq_true', Bool.not_eq_false', Bool.and_eq_false_iff, Bool.or_eq_false_iff, decide_eq_true_eq, decide_eq_false_iff_not] at g3
      unfold mayP at h
      omega
    simp only [Env.sets, Env.set, BE.den, IE.den, DE.den, DV.int, DV.bool, DV.list, LOp.den, List.map_cons, List.map_nil, Nat.reduceEqDiff, ↓reduceIte, reduceCtorEq, Bool.and_eq_true, Bool.or_eq_true, Bool.not_eq_true', Bool.not_eq_false', Bool.and_eq_false_iff, Bool.or_eq_false_iff, decide_eq_true_eq, decide_eq_false_iff_not] at g3
    refine retB (P := mayP X Y Z p q r s) ?_
    simp only [Env.sets, Env.set, BE.den, IE.den, DE.den, DV.int, DV.bool, DV.list, LOp.den, List.map_cons, List.map_nil, Nat.reduceEqDiff, ↓reduceIte, reduceCtorEq, Bool.and_eq_true, Bool.or_eq_true, Bool.not_eq_true', Bool.not_eq_false', Bool.and_eq_false_iff, Bool.or_eq_false_iff, decide_eq_true_eq, decide_eq_false_iff_not]
    unfold mayP
    omega
  · cases hp
theorem ok32 : ContractOk Try.prog 32 cFits := by
  refine contract_of (Γ := knownOf []) known_nil Try.func32 rfl rfl is32 fun ds hk hp => ?_
  split at hp
  · skip
    rename_i X Y Z p q r s
    obtain ⟨hX, hY, hZ, hp, hq, hr, hs⟩ := hp
    refine h_ite (fun g0 => retN (P := mayP X Y Z p q r s) fun h => ?_) (fun g0 => ?_)
    · have g0 : decide (255 < IntKind.u64.wrap p) = true := g0
      have := u64_le (c := 255) hp (by omega) (by omega)
      rw [decide_eq_true_eq] at g0
      unfold mayP at h
      omega
    have g0 : decide (255 < IntKind.u64.wrap p) = false := g0
    rw [decide_eq_false_iff_not] at g0
    have k0 := u64_le (c := 255) hp (by omega) (by omega)
    refine h_ite (fun g1 => retN (P := mayP X Y Z p q r s) fun h => ?_) (fun g1 => ?_)
    · have g1 : decide (255 < IntKind.u64.wrap q) = true := g1
      have := u64_le (c := 255) hq (by omega) (by omega)
      rw [decide_eq_true_eq] at g1
      unfold mayP at h
      omega
    have g1 : decide (255 < IntKind.u64.wrap q) = false := g1
    rw [decide_eq_false_iff_not] at g1
    have k1 := u64_le (c := 255) hq (by omega) (by omega)
    refine h_ite (fun g2 => retN (P := mayP X Y Z p q r s) fun h => ?_) (fun g2 => ?_)
    · have g2 : decide (255 < IntKind.u64.wrap r) = true := g2
      have := u64_le (c := 255) hr (by omega) (by omega)
      rw [decide_eq_true_eq] at g2
      unfold mayP at h
      omega
    have g2 : decide (255 < IntKind.u64.wrap r) = false := g2
    rw [decide_eq_false_iff_not] at g2
    have k2 := u64_le (c := 255) hr (by omega) (by omega)
    refine h_ite (fun g3 => retN (P := mayP X Y Z p q r s) fun h => ?_) (fun g3 => ?_)
    · have g3 : decide (255 < IntKind.u64.wrap s) = true := g3
      have := u64_le (c := 255) hs (by omega) (by omega)
      rw [decide_eq_true_eq] at g3
      unfold mayP at h
      omega
    have g3 : decide (255 < IntKind.u64.wrap s) = false := g3
    rw [decide_eq_false_iff_not] at g3
    have k3 := u64_le (c := 255) hs (by omega) (by omega)
    refine retB (P := mayP X Y Z p q r s) ?_
    simp only [Env.sets, Env.set, BE.den, IE.den, DE.den, DV.int, DV.bool, DV.list, LOp.den, List.map_cons, List.map_nil, Nat.reduceEqDiff, ↓reduceIte, reduceCtorEq, Bool.and_eq_true, Bool.or_eq_true, Bool.not_eq_true', Bool.not_eq_false', Bool.and_eq_false_iff, Bool.or_eq_false_iff, decide_eq_true_eq, decide_eq_false_iff_not]
    have k4 := i64_neg hX
    have k5 := i64_neg hY
    have k6 := u64_le (c := 16777215) hZ (by omega) (by omega)
    unfold mayP
    constructor
    · rintro ⟨⟨⟨⟨a1, a2⟩, a3⟩, a4⟩, a5⟩
      exact ⟨⟨by omega, by omega, by omega, by omega⟩, k4.1 ⟨a1, a3⟩, k5.1 ⟨a2, a4⟩, k6.1 a5⟩
    · rintro ⟨_, a1, a2, a3⟩
      exact ⟨⟨⟨⟨(k4.2 a1).1, (k5.2 a2).1⟩, (k4.2 a1).2⟩, (k5.2 a2).2⟩, k6.2 a3⟩
  · cases hp
theorem ok33 : ContractOk Try.prog 33 c33 := by
  refine contract_of (Γ := knownOf []) known_nil Try.func33 rfl rfl is33 fun ds hk hp => ?_
  split at hp
  · skip
    rename_i a b c
    obtain ⟨rfl, rfl, rfl⟩ := hp
    rfl
  · cases hp
theorem ok21 : ContractOk Try.prog 21 c21 := by
  refine contract_of (Γ := knownOf [(32, cFits), (33, c33)]) (known_cons ok32 rfl (known_cons ok33 rfl known_nil)) Try.func21 rfl rfl is21 fun ds hk hp => ?_
  split at hp
  · skip
    rename_i X Y Z p q r s X1 Y1 Z1 p1 q1 r1 s1 S a b c
    obtain ⟨⟨rfl, rfl, rfl, rfl, rfl, rfl, rfl⟩, ⟨rfl, rfl, rfl⟩, hin⟩ := hp
    refine h_call (c := cFits) rfl hin fun rs hk hr => ?_
    have hr : rs = [.b (decide (mayP X1 Y1 Z1 p1 q1 r1 s1))] := hr
    subst hr
    refine h_callg (c := cFits) rfl (fun _ => hin) fun rs hk hr2 => ?_
    obtain ⟨i2, rfl⟩ := kinds1b hk
    have hr2 : decide (mayP X1 Y1 Z1 p1 q1 r1 s1) = true → [DV.b i2] = [DV.b (decide (mayP X1 Y1 Z1 p1 q1 r1 s1))] := hr2
    refine h_callg (c := c33) rfl (fun _ => ⟨rfl, rfl, rfl⟩) fun rs hk hr3 => ?_
    obtain ⟨i3, rfl⟩ := kinds1b hk
    have hr3 : (((decide (mayP X1 Y1 Z1 p1 q1 r1 s1) && i2) && decide (1 ≤ S)) && decide (S ≤ 64)) = true → [DV.b i3] = [DV.b true] := hr3
    refine retB (P := sizeP X1 Y1 Z1 p1 q1 r1 s1 S) ?_
    show ((((decide (mayP X1 Y1 Z1 p1 q1 r1 s1) && i2) && decide (1 ≤ S)) && decide (S ≤ 64)) && i3) = true ↔ _
    constructor
    · intro h
      simp only [Bool.and_eq_true, decide_eq_true_eq] at h
      exact ⟨h.1.1.1.1, h.1.1.2, h.1.2⟩
    · rintro ⟨h1, h2, h3⟩
      have e2 := b_of (hr2 (decide_eq_true h1))
      rw [decide_eq_true h1] at e2
      subst e2
      have e0 : (((decide (mayP X1 Y1 Z1 p1 q1 r1 s1) && true) && decide (1 ≤ S)) && decide (S ≤ 64)) = true := by
        rw [decide_eq_true h1, decide_eq_true h2, decide_eq_true h3]; rfl
      have e3 := b_of (hr3 e0)
      subst e3
      rw [e0]; rfl
  · cases hp
theorem ok9 : ContractOk Try.prog 9 (cRightD sg9) := by
  refine contract_of (Γ := knownOf [(21, c21)]) (known_cons ok21 rfl known_nil) Try.func9 rfl rfl is9 fun ds hk hp => ?_
  split at hp
  · skip
    rename_i X Y Z p q r s S K
    obtain ⟨hin, hS, hK⟩ := hp
    have hu := u64_le (c := 2) hK (by omega) (by omega)
    refine h_callg (c := c21) rfl (fun _ => ⟨⟨rfl, rfl, rfl, rfl, rfl, rfl, rfl⟩, ⟨rfl, rfl, rfl⟩, hin⟩) fun rs hk hr => ?_
    obtain ⟨i2, rfl⟩ := kinds1b hk
    have hr : decide (IntKind.u64.wrap K ≤ 2) = true → [DV.b i2] = [DV.b (decide (sizeP X Y Z p q r s S))] := hr
    refine retB (P := rightD X Y Z p q r s S K) ?_
    show (decide (IntKind.u64.wrap K ≤ 2) && i2) = true ↔ _
    constructor
    · intro h
      simp only [Bool.and_eq_true] at h
      have e := b_of (hr h.1)
      rw [h.2] at e
      exact ⟨of_decide_eq_true e.symm, hu.1 (of_decide_eq_true h.1)⟩
    · rintro ⟨h1, h2⟩
      have h3 := decide_eq_true (hu.2 h2)
      have e := b_of (hr h3)
      rw [h3, e, decide_eq_true h1]; rfl
  · cases hp
theorem ok10 : ContractOk Try.prog 10 (cRightD sg10) := by
  refine contract_of (Γ := knownOf [(22, cMay)]) (known_cons ok22 rfl known_nil) Try.func10 rfl rfl is10 fun ds hk hp => ?_
  split at hp
  · skip
    rename_i X Y Z p q r s S K
    refine h_call (c := cMay) rfl trivial fun rs hk hr => ?_
    have hr : rs = [.b (decide (mayP X Y Z p q r s))] := hr
    subst hr
    refine retB (P := rightD X Y Z p q r s S K) ?_
    simp only [Env.sets, Env.set, BE.den, IE.den, DE.den, DV.int, DV.bool, DV.list, LOp.den, List.map_cons, List.map_nil, Nat.reduceEqDiff, ↓reduceIte, reduceCtorEq, Bool.and_eq_true, Bool.or_eq_true, Bool.not_eq_true', Bool.not_eq_false', Bool.and_eq_false_iff, Bool.or_eq_false_iff, decide_eq_true_eq, decide_eq_false_iff_not]
    unfold rightD sizeP
    constructor
    · rintro ⟨⟨⟨⟨a, b⟩, c⟩, d⟩, e⟩; exact ⟨⟨a, b, c⟩, d, e⟩
    · rintro ⟨⟨a, b, c⟩, d, e⟩; exact ⟨⟨⟨⟨a, b⟩, c⟩, d⟩, e⟩
  · cases hp
theorem ok29 : ContractOk Try.prog 29 (cFloor sg29) := by
  refine contract_of (Γ := knownOf []) known_nil Try.func29 rfl rfl is29 fun ds hk hp => ?_
  split at hp
  · skip
    rename_i n d
    obtain ⟨hd, h1, h2⟩ := hp
    have hf := floor_spec (n := n) hd
    have hb := tdiv_le (n := n) hd h1 h2
    refine h_need (by simp only [Env.sets, Env.set, BE.den, IE.den, DE.den, DV.int, DV.bool, DV.list, LOp.den, List.map_cons, List.map_nil, Nat.reduceEqDiff, ↓reduceIte, reduceCtorEq, Bool.and_eq_true, Bool.or_eq_true, Bool.not_eq_true', Bool.not_eq_false', Bool.and_eq_false_iff, Bool.or_eq_false_iff, decide_eq_true_eq, decide_eq_false_iff_not]; omega) ?_
    refine h_ite (fun hc => ?_) (fun hc => ?_)
    · simp only [Env.sets, Env.set, BE.den, IE.den, DE.den, DV.int, DV.bool, DV.list, LOp.den, List.map_cons, List.map_nil, Nat.reduceEqDiff, ↓reduceIte, reduceCtorEq, Bool.and_eq_true, Bool.or_eq_true, Bool.not_eq_true', Bool.not_eq_false', Bool.and_eq_false_iff, Bool.or_eq_false_iff, decide_eq_true_eq, decide_eq_false_iff_not] at hc
      have := hf.1 hc
      iterate 2 refine h_need (by simp only [Env.sets, Env.set, BE.den, IE.den, DE.den, DV.int, DV.bool, DV.list, LOp.den, List.map_cons, List.map_nil, Nat.reduceEqDiff, ↓reduceIte, reduceCtorEq, Bool.and_eq_true, Bool.or_eq_true, Bool.not_eq_true', Bool.not_eq_false', Bool.and_eq_false_iff, Bool.or_eq_false_iff, decide_eq_true_eq, decide_eq_false_iff_not]; omega) ?_
      refine retI ?_
      simp only [Env.sets, Env.set, BE.den, IE.den, DE.den, DV.int, DV.bool, DV.list, LOp.den, List.map_cons, List.map_nil, Nat.reduceEqDiff, ↓reduceIte, reduceCtorEq, Bool.and_eq_true, Bool.or_eq_true, Bool.not_eq_true', Bool.not_eq_false', Bool.and_eq_false_iff, Bool.or_eq_false_iff, decide_eq_true_eq, decide_eq_false_iff_not]
      omega
    · simp only [Env.sets, Env.set, BE.den, IE.den, DE.den, DV.int, DV.bool, DV.list, LOp.den, List.map_cons, List.map_nil, Nat.reduceEqDiff, ↓reduceIte, reduceCtorEq, Bool.and_eq_true, Bool.or_eq_true, Bool.not_eq_true', Bool.not_eq_false', Bool.and_eq_false_iff, Bool.or_eq_false_iff, decide_eq_true_eq, decide_eq_false_iff_not] at hc
      have := hf.2 (by omega)
      refine h_need (by simp only [Env.sets, Env.set, BE.den, IE.den, DE.den, DV.int, DV.bool, DV.list, LOp.den, List.map_cons, List.map_nil, Nat.reduceEqDiff, ↓reduceIte, reduceCtorEq, Bool.and_eq_true, Bool.or_eq_true, Bool.not_eq_true', Bool.not_eq_false', Bool.and_eq_false_iff, Bool.or_eq_false_iff, decide_eq_true_eq, decide_eq_false_iff_not]; omega) ?_
      refine retI ?_
      simp only [Env.sets, Env.set, BE.den, IE.den, DE.den, DV.int, DV.bool, DV.list, LOp.den, List.map_cons, List.map_nil, Nat.reduceEqDiff, ↓reduceIte, reduceCtorEq, Bool.and_eq_true, Bool.or_eq_true, Bool.not_eq_true', Bool.not_eq_false', Bool.and_eq_false_iff, Bool.or_eq_false_iff, decide_eq_true_eq, decide_eq_false_iff_not]
      omega
  · cases hp
theorem ok34 : ContractOk Try.prog 34 (cFloor sg34) := by
  refine contract_of (Γ := knownOf []) known_nil Try.func34 rfl rfl is34 fun ds hk hp => ?_
  split at hp
  · skip
    rename_i n d
    obtain ⟨hd, h1, h2⟩ := hp
    have hf := floor_spec (n := n) hd
    have hb := tdiv_le (n := n) hd h1 h2
    refine h_need (by simp only [Env.sets, Env.set, BE.den, IE.den, DE.den, DV.int, DV.bool, DV.list, LOp.den, List.map_cons, List.map_nil, Nat.reduceEqDiff, ↓reduceIte, reduceCtorEq, Bool.and_eq_true, Bool.or_eq_true, Bool.not_eq_true', Bool.not_eq_false', Bool.and_eq_false_iff, Bool.or_eq_false_iff, decide_eq_true_eq, decide_eq_false_iff_not]; omega) ?_
    refine h_need (by simp only [Env.sets, Env.set, BE.den, IE.den, DE.den, DV.int, DV.bool, DV.list, LOp.den, List.map_cons, List.map_nil, Nat.reduceEqDiff, ↓reduceIte, reduceCtorEq, Bool.and_eq_true, Bool.or_eq_true, Bool.not_eq_true', Bool.not_eq_false', Bool.and_eq_false_iff, Bool.or_eq_false_iff, decide_eq_true_eq, decide_eq_false_iff_not]; omega) ?_
    refine h_ite (fun hc => ?_) (fun hc => ?_)
    · simp only [Env.sets, Env.set, BE.den, IE.den, DE.den, DV.int, DV.bool, DV.list, LOp.den, List.map_cons, List.map_nil, Nat.reduceEqDiff, ↓reduceIte, reduceCtorEq, Bool.and_eq_true, Bool.or_eq_true, Bool.not_eq_true', Bool.not_eq_false', Bool.and_eq_false_iff, Bool.or_eq_false_iff, decide_eq_true_eq, decide_eq_false_iff_not] at hc
      have := hf.1 hc
      iterate 1 refine h_need (by simp only [Env.sets, Env.set, BE.den, IE.den, DE.den, DV.int, DV.bool, DV.list, LOp.den, List.map_cons, List.map_nil, Nat.reduceEqDiff, ↓reduceIte, reduceCtorEq, Bool.and_eq_true, Bool.or_eq_true, Bool.not_eq_true', Bool.not_eq_false', Bool.and_eq_false_iff, Bool.or_eq_false_iff, decide_eq_true_eq, decide_eq_false_iff_not]; omega) ?_
      refine retI ?_
      simp only [Env.sets, Env.set, BE.den, IE.den, DE.den, DV.int, DV.bool, DV.list, LOp.den, List.map_cons, List.map_nil, Nat.reduceEqDiff, ↓reduceIte, reduceCtorEq, Bool.and_eq_true, Bool.or_eq_true, Bool.not_eq_true', Bool.not_eq_false', Bool.and_eq_false_iff, Bool.or_eq_false_iff, decide_eq_true_eq, decide_eq_false_iff_not]
      omega
    · simp only [Env.sets, Env.set, BE.den, IE.den, DE.den, DV.int, DV.bool, DV.list, LOp.den, List.map_cons, List.map_nil, Nat.reduceEqDiff, ↓reduceIte, reduceCtorEq, Bool.and_eq_true, Bool.or_eq_true, Bool.not_eq_true', Bool.not_eq_false', Bool.and_eq_false_iff, Bool.or_eq_false_iff, decide_eq_true_eq, decide_eq_false_iff_not] at hc
      have := hf.2 (by omega)
      refine retI ?_
      simp only [Env.sets, Env.set, BE.den, IE.den, DE.den, DV.int, DV.bool, DV.list, LOp.den, List.map_cons, List.map_nil, Nat.reduceEqDiff, ↓reduceIte, reduceCtorEq, Bool.and_eq_true, Bool.or_eq_true, Bool.not_eq_true', Bool.not_eq_false', Bool.and_eq_false_iff, Bool.or_eq_false_iff, decide_eq_true_eq, decide_eq_false_iff_not]
      omega
  · cases hp
theorem ok23 : ContractOk Try.prog 23 c23 := by
  refine contract_of (Γ := knownOf [(34, cFloor sg34)]) (known_cons ok34 rfl known_nil) Try.func23 rfl rfl is23 fun ds hk hp => ?_
  split at hp
  · skip
    rename_i u S
    obtain ⟨⟨u1, u2⟩, s1, s2⟩ := hp
    have em : S.tmod 2 = S % 2 := Int.tmod_eq_emod_of_nonneg (by omega)
    have ed : S.tdiv 2 = S / 2 := Int.tdiv_eq_ediv_of_nonneg (by omega)
    have ed1 : (S - 1).tdiv 2 = (S - 1) / 2 := Int.tdiv_eq_ediv_of_nonneg (by omega)
    refine h_ite (fun hc => ?_) (fun hc => ?_)
    · simp only [Env.sets, Env.set, BE.den, IE.den, DE.den, DV.int, DV.bool, DV.list, LOp.den, List.map_cons, List.map_nil, Nat.reduceEqDiff, ↓reduceIte, reduceCtorEq, Bool.and_eq_true, Bool.or_eq_true, Bool.not_eq_true', Bool.not_eq_false', Bool.and_eq_false_iff, Bool.or_eq_false_iff, decide_eq_true_eq, decide_eq_false_iff_not] at hc
      have e1 : S % 2 = 1 := by omega
      refine h_call (c := cFloor sg34) rfl (show (0 : Int) < 256 ∧ bigP u by unfold bigP; omega) fun rs hk hr => ?_
      have hr : rs = [.i (u / 256)] := hr
      subst hr
      iterate 3 refine h_need (by simp only [Env.sets, Env.set, BE.den, IE.den, DE.den, DV.int, DV.bool, DV.list, LOp.den, List.map_cons, List.map_nil, Nat.reduceEqDiff, ↓reduceIte, reduceCtorEq, Bool.and_eq_true, Bool.or_eq_true, Bool.not_eq_true', Bool.not_eq_false', Bool.and_eq_false_iff, Bool.or_eq_false_iff, decide_eq_true_eq, decide_eq_false_iff_not]; omega) ?_
      refine retI ?_
      simp only [Env.sets, Env.set, BE.den, IE.den, DE.den, DV.int, DV.bool, DV.list, LOp.den, List.map_cons, List.map_nil, Nat.reduceEqDiff, ↓reduceIte, reduceCtorEq, Bool.and_eq_true, Bool.or_eq_true, Bool.not_eq_true', Bool.not_eq_false', Bool.and_eq_false_iff, Bool.or_eq_false_iff, decide_eq_true_eq, decide_eq_false_iff_not]
      unfold firstI
      omega
    · simp only [Env.sets, Env.set, BE.den, IE.den, DE.den, DV.int, DV.bool, DV.list, LOp.den, List.map_cons, List.map_nil, Nat.reduceEqDiff, ↓reduceIte, reduceCtorEq, Bool.and_eq_true, Bool.or_eq_true, Bool.not_eq_true', Bool.not_eq_false', Bool.and_eq_false_iff, Bool.or_eq_false_iff, decide_eq_true_eq, decide_eq_false_iff_not] at hc
      have e1 : S % 2 = 0 := by omega
      refine h_need (by simp only [Env.sets, Env.set, BE.den, IE.den, DE.den, DV.int, DV.bool, DV.list, LOp.den, List.map_cons, List.map_nil, Nat.reduceEqDiff, ↓reduceIte, reduceCtorEq, Bool.and_eq_true, Bool.or_eq_true, Bool.not_eq_true', Bool.not_eq_false', Bool.and_eq_false_iff, Bool.or_eq_false_iff, decide_eq_true_eq, decide_eq_false_iff_not]; omega) ?_
      refine h_call (c := cFloor sg34) rfl (show (0 : Int) < 256 ∧ bigP (u + 128) by unfold bigP; omega) fun rs hk hr => ?_
      have hr : rs = [.i ((u + 128) / 256)] := hr
      subst hr
      iterate 2 refine h_need (by simp only [Env.sets, Env.set, BE.den, IE.den, DE.den, DV.int, DV.bool, DV.list, LOp.den, List.map_cons, List.map_nil, Nat.reduceEqDiff, ↓reduceIte, reduceCtorEq, Bool.and_eq_true, Bool.or_eq_true, Bool.not_eq_true', Bool.not_eq_false', Bool.and_eq_false_iff, Bool.or_eq_false_iff, decide_eq_true_eq, decide_eq_false_iff_not]; omega) ?_
      refine retI ?_
      simp only [Env.sets, Env.set, BE.den, IE.den, DE.den, DV.int, DV.bool, DV.list, LOp.den, List.map_cons, List.map_nil, Nat.reduceEqDiff, ↓reduceIte, reduceCtorEq, Bool.and_eq_true, Bool.or_eq_true, Bool.not_eq_true', Bool.not_eq_false', Bool.and_eq_false_iff, Bool.or_eq_false_iff, decide_eq_true_eq, decide_eq_false_iff_not]
      unfold firstI
      omega
  · cases hp
theorem ok11 : ContractOk Try.prog 11 (cBox sg11) := by
  refine contract_of (Γ := knownOf [(9, cRightD sg9)]) (known_cons ok9 rfl known_nil) Try.func11 rfl rfl is11 fun ds hk hp => ?_
  split at hp
  · skip
    rename_i X Y Z p q r s S
    obtain ⟨hin, hS⟩ := hp
    refine h_call (c := cRightD sg9) rfl (show (in64 X ∧ in64 Y ∧ in64 Z ∧ in64 p ∧ in64 q ∧ in64 r ∧ in64 s) ∧ in64 S ∧ in64 0 from ⟨hin, hS, by unfold in64; omega⟩) fun rs hk hr => ?_
    have hr : rs = [.b (decide (rightD X Y Z p q r s S 0))] := hr
    subst hr
    refine h_ite (fun g => ?_) (fun g => ?_)
    · have g : (!decide (rightD X Y Z p q r s S 0)) = true := g
      rw [Bool.not_eq_true', decide_eq_false_iff_not] at g
      show _ = boxL X Y Z p q r s S
      unfold boxL
      rw [if_neg (fun h => g ⟨h, by omega⟩)]
      rfl
    have g : (!decide (rightD X Y Z p q r s S 0)) = false := g
    rw [Bool.not_eq_false', decide_eq_true_eq] at g
    have hz := g.1
    obtain ⟨⟨_, ⟨x1, x2⟩, ⟨y1, y2⟩, _⟩, s1, s2⟩ := id hz
    clear hin hS
    iterate 8 refine h_need (by simp only [Env.sets, Env.set, BE.den, IE.den, DE.den, DV.int, DV.bool, DV.list, LOp.den, List.map_cons, List.map_nil, Nat.reduceEqDiff, ↓reduceIte, reduceCtorEq, Bool.and_eq_true, Bool.or_eq_true, Bool.not_eq_true', Bool.not_eq_false', Bool.and_eq_false_iff, Bool.or_eq_false_iff, decide_eq_true_eq, decide_eq_false_iff_not]; omega) ?_
    show _ = boxL X Y Z p q r s S
    unfold boxL
    rw [if_pos hz]
    rfl
  · cases hp
theorem ok12 : ContractOk Try.prog 12 (cBox sg12) := by
  refine contract_of (Γ := knownOf [(10, cRightD sg10), (23, c23)]) (known_cons ok10 rfl (known_cons ok23 rfl known_nil)) Try.func12 rfl rfl is12 fun ds hk hp => ?_
  split at hp
  · skip
    rename_i X Y Z p q r s S
    obtain ⟨hin, hS⟩ := hp
    refine h_call (c := cRightD sg10) rfl (show (in64 X ∧ in64 Y ∧ in64 Z ∧ in64 p ∧ in64 q ∧ in64 r ∧ in64 s) ∧ in64 S ∧ in64 0 from ⟨hin, hS, by unfold in64; omega⟩) fun rs hk hr => ?_
    have hr : rs = [.b (decide (rightD X Y Z p q r s S 0))] := hr
    subst hr
    refine h_ite (fun g => ?_) (fun g => ?_)
    · have g : (!decide (rightD X Y Z p q r s S 0)) = true := g
      rw [Bool.not_eq_true', decide_eq_false_iff_not] at g
      show _ = boxL X Y Z p q r s S
      unfold boxL
      rw [if_neg (fun h => g ⟨h, by omega⟩)]
      rfl
    have g : (!decide (rightD X Y Z p q r s S 0)) = false := g
    rw [Bool.not_eq_false', decide_eq_true_eq] at g
    have hz := g.1
    obtain ⟨⟨_, ⟨x1, x2⟩, ⟨y1, y2⟩, _⟩, s1, s2⟩ := id hz
    clear hin hS
    refine h_call (c := c23) rfl ⟨⟨x1, x2⟩, s1, s2⟩ fun rs hk hr => ?_
    have hr : rs = [.i (firstI X S)] := hr
    subst hr
    refine h_call (c := c23) rfl ⟨⟨y1, y2⟩, s1, s2⟩ fun rs hk hr => ?_
    have hr : rs = [.i (firstI Y S)] := hr
    subst hr
    have f1 : -268435456 ≤ firstI X S ∧ firstI X S ≤ 268435456 := by unfold firstI; omega
    have f2 : -268435456 ≤ firstI Y S ∧ firstI Y S ≤ 268435456 := by unfold firstI; omega
    iterate 2 refine h_need (by simp only [Env.sets, Env.set, BE.den, IE.den, DE.den, DV.int, DV.bool, DV.list, LOp.den, List.map_cons, List.map_nil, Nat.reduceEqDiff, ↓reduceIte, reduceCtorEq, Bool.and_eq_true, Bool.or_eq_true, Bool.not_eq_true', Bool.not_eq_false', Bool.and_eq_false_iff, Bool.or_eq_false_iff, decide_eq_true_eq, decide_eq_false_iff_not]; omega) ?_
    show _ = boxL X Y Z p q r s S
    unfold boxL
    rw [if_pos hz]
    rfl
  · cases hp
theorem ok16 : ContractOk Try.prog 16 c16 := by
  refine contract_of (Γ := knownOf []) known_nil Try.func16 rfl rfl is16 fun ds hk hp => ?_
  split at hp
  · skip
    rename_i X Y Z p q r s S
    obtain ⟨⟨_, ⟨x1, x2⟩, ⟨y1, y2⟩, _⟩, s1, s2⟩ := hp
    have fx := floor_spec (n := X) (d := 256) (by omega)
    have fy := floor_spec (n := Y) (d := 256) (by omega)
    have tx := tdiv_le (n := X) (d := 256) (by omega) (by omega) (by omega)
    have ty := tdiv_le (n := Y) (d := 256) (by omega) (by omega) (by omega)
    iterate 10 refine h_need (by simp only [Env.sets, Env.set, BE.den, IE.den, DE.den, DV.int, DV.bool, DV.list, LOp.den, List.map_cons, List.map_nil, Nat.reduceEqDiff, ↓reduceIte, reduceCtorEq, Bool.and_eq_true, Bool.or_eq_true, Bool.not_eq_true', Bool.not_eq_false', Bool.and_eq_false_iff, Bool.or_eq_false_iff, decide_eq_true_eq, decide_eq_false_iff_not]; omega) ?_
    rfl
  · cases hp
theorem ok7 : ContractOk Try.prog 7 c7 := by
  refine contract_of (Γ := knownOf [(19, cRight sg19), (20, cArea sg20)]) (known_cons ok19 rfl (known_cons ok20 rfl known_nil)) Try.func7 rfl rfl is7 fun ds hk hp => ?_
  split at hp
  · skip
    rename_i a b c d
    refine h_call (c := cRight sg19) rfl trivial fun rs hk hr => ?_
    have hr : rs = [.b (rightB a b c d)] := hr
    subst hr
    refine h_callg (c := cArea sg20) rfl (fun _ => trivial) fun rs hk hr2 => ?_
    obtain ⟨i2, rfl⟩ := kinds1i hk
    have hr2 : rightB a b c d = true → [DV.i i2] = [DV.i (areaR a b c d)] := hr2
    show [DV.b (!rightB a b c d || decide (i2 ≤ 400))] = _
    cases hB : rightB a b c d
    · show _ = [DV.b (!rightB a b c d || decide (areaR a b c d ≤ 400))]
      rw [hB]; rfl
    · have := i_of (hr2 hB)
      subst this
      show _ = [DV.b (!rightB a b c d || decide (areaR a b c d ≤ 400))]
      rw [hB]
  · cases hp
end Go.Proofs.Ytkoacdplkanhhaa.Fns
