/- Layer 20: what each function does. -/
import Derived.Test.YtmnnaofonefobaaPlain
import Derived.Test.YtmnnaofonefobaaTrees
set_option linter.unusedVariables false
set_option linter.unusedSimpArgs false
set_option maxRecDepth 10000
namespace Go.Proofs.Ytmnnaofonefobaa.Fns
open Go.Sx Go.Proofs.Ytmnnaofonefobaa.Trees Go.Proofs.Ytmnnaofonefobaa.Plain

theorem i_of {a b : Int} (h : [DV.i a] = [DV.i b]) : a = b := by simpa using h
theorem b_of {a b : Bool} (h : [DV.b a] = [DV.b b]) : a = b := by simpa using h
theorem retB {X : Bool} {P : Prop} [Decidable P] (h : X = true ↔ P) : [DV.b X] = [DV.b (decide P)] := by
  by_cases hp : P
  · simp [hp, h.2 hp]
  · simp [hp, Bool.eq_false_iff.2 (fun hx => hp (h.1 hx))]
theorem eqb {p q : Prop} [Decidable p] [Decidable q] (h : p ↔ q) : decide p = decide q := by simp [h]
theorem retI {a b : Int} (h : b = a) : [DV.i a] = [DV.i b] := by rw [h]
theorem retT {P : Prop} [Decidable P] (h : P) : [DV.b true] = [DV.b (decide P)] := by simp [h]
theorem retN {P : Prop} [Decidable P] (h : ¬ P) : [DV.b false] = [DV.b (decide P)] := by simp [h]
theorem h_letE {Γ : Known} {R : List DV → Prop} {env : Env} {F : Nat → List DV → Prop} {t : Tree} {id : Nat} {op : LOp} {M : List (List Int)} (e : op.den env = M) (ht : t.holds Γ R (env.set id (.l M)) F) : (Tree.ev (.letl id op) t).holds Γ R env F := by
  subst e; exact ht
theorem floor_spec {n d : Int} (hd : 0 < d) : (n.tmod d < 0 → n.tdiv d = n / d + 1) ∧ (0 ≤ n.tmod d → n.tdiv d = n / d) := by
  have hs : d.sign = 1 := Int.sign_eq_one_of_pos hd
  rw [Int.tdiv_eq_ediv, Int.tmod_eq_emod, hs]
  have h1 := Int.emod_nonneg n (show d ≠ 0 by omega)
  have h2 := Int.emod_lt_of_pos n hd
  split <;> rename_i h <;> omega
theorem tdiv_le {n d : Int} (hd : 0 < d) (h1 : -4611686018427387904 ≤ n) (h2 : n ≤ 4611686018427387904) : -4611686018427387904 ≤ n.tdiv d ∧ n.tdiv d ≤ 4611686018427387904 := by
  have := Int.natAbs_tdiv_le_natAbs n d
  omega
theorem mul_bd {a b A B : Int} (h1 : -A ≤ a) (h2 : a ≤ A) (h3 : -B ≤ b) (h4 : b ≤ B) : -(A * B) ≤ a * b ∧ a * b ≤ A * B := by
  have e1 := Int.mul_nonneg (show 0 ≤ A - a by omega) (show 0 ≤ B - b by omega)
  have e2 := Int.mul_nonneg (show 0 ≤ A + a by omega) (show 0 ≤ B + b by omega)
  have e3 := Int.mul_nonneg (show 0 ≤ A - a by omega) (show 0 ≤ B + b by omega)
  have e4 := Int.mul_nonneg (show 0 ≤ A + a by omega) (show 0 ≤ B - b by omega)
  constructor <;> grind
def bigP (x : Int) : Prop := -4611686018427387904 ≤ x ∧ x ≤ 4611686018427387904
instance (x y : Int) : Decidable (farP x y) := inferInstanceAs (Decidable (_ ∧ _))
def nearP (x y : Int) : Prop := -4194304 ≤ x ∧ x ≤ 4194304 ∧ -4194304 ≤ y ∧ y ≤ 4194304
instance (x y : Int) : Decidable (nearP x y) := inferInstanceAs (Decidable (_ ∧ _))
def midP (x y : Int) : Prop := -1073742080 ≤ x ∧ x ≤ 1073742080 ∧ -1073742080 ≤ y ∧ y ≤ 1073742080
def rightP (x0 y0 x1 y1 : Int) : Prop := (-4194304 ≤ x0 ∧ x0 ≤ 4194304) ∧ (-4194304 ≤ x1 ∧ x1 ≤ 4194304) ∧ (-4194304 ≤ y0 ∧ y0 ≤ 4194304) ∧ (-4194304 ≤ y1 ∧ y1 ≤ 4194304) ∧ x0 < x1 ∧ y0 < y1
instance (x0 y0 x1 y1 : Int) : Decidable (rightP x0 y0 x1 y1) := inferInstanceAs (Decidable (_ ∧ _))
abbrev wl (x y : Int) : List DV := [.i x, .i y, .i 0, .i 0, .i 0, .i 0, .i 0]
def c20 : Contract := CFn sg20 (fun | [.i x, .i y] => True | _ => False) (fun | [.i x, .i y] => [.b (decide (farP x y))] | _ => [])
def c17 : Contract := CFn sg17 (fun | [.i x, .i y] => True | _ => False) (fun | [.i x, .i y] => [.b (decide (nearP x y))] | _ => [])
def c11 : Contract := CFn sg11 (fun | [.i x, .i y] => True | _ => False) (fun | [.i x, .i y] => wl x y | _ => [])
def c8 : Contract := CFn sg8 (fun | [.i ax, .i ay, .i bx, .i b', .i cx, .i cy] => True | _ => False) (fun | [.i ax, .i ay, .i bx, .i b', .i cx, .i cy] => [.b (decide (farP ax ay ∧ farP bx b' ∧ farP cx cy))] | _ => [])
def c21 : Contract := CFn sg21 (fun | [.i a, .i b, .i c, .i d] => True | _ => False) (fun | [.i a, .i b, .i c, .i d] => [.b (decide (rightP a b c d))] | _ => [])
def c23 : Contract := CFn sg23 (fun | [.i a, .i b, .i c, .i d] => True | _ => False) (fun | [.i a, .i b, .i c, .i d] => [.b (decide (rightP a b c d))] | _ => [])
def c9 : Contract := CFn sg9 (fun | [.i a, .i b, .i c, .i d] => True | _ => False) (fun | [.i a, .i b, .i c, .i d] => [.i (if rightP a b c d then (c - a) * (d - b) else 0)] | _ => [])
def cArea (sg : Sig) : Contract := CFn sg (fun | [.i a0, .i a1, .i a2, .i a3, .i a4, .i a5, .i a6, .i b0, .i b1, .i b2, .i b3, .i b4, .i b5, .i b6, .i c0, .i c1, .i c2, .i c3, .i c4, .i c5, .i c6] => farP a0 a1 ∧ farP b0 b1 ∧ midP c0 c1 | _ => False) (fun | [.i a0, .i a1, .i a2, .i a3, .i a4, .i a5, .i a6, .i b0, .i b1, .i b2, .i b3, .i b4, .i b5, .i b6, .i c0, .i c1, .i c2, .i c3, .i c4, .i c5, .i c6] => [.i (areaI a0 a1 b0 b1 c0 c1)] | _ => [])
def c27 : Contract := CFn sg27 (fun | [.i p0, .i p1, .i p2, .i p3, .i p4, .i p5, .i p6, .i q0, .i q1, .i q2, .i q3, .i q4, .i q5, .i q6] => farP p0 p1 ∧ farP q0 q1 | _ => False) (fun | [.i p0, .i p1, .i p2, .i p3, .i p4, .i p5, .i p6, .i q0, .i q1, .i q2, .i q3, .i q4, .i q5, .i q6] => [.i p0, .i p1, .i (q0 - p0), .i (q1 - p1), .i (leastI p0 p1 q0 q1)] | _ => [])
def sideP (sx sy w h least : Int) : Prop := farP sx sy ∧ (-536870912 ≤ w ∧ w ≤ 536870912) ∧ (-536870912 ≤ h ∧ h ≤ 536870912) ∧ 0 ≤ least ∧ least ≤ 1
def c26 : Contract := CFn sg26 (fun | [.i sx, .i sy, .i w, .i h, .i least, .i x, .i y] => sideP sx sy w h least ∧ nearP x y | _ => False) (fun | [.i sx, .i sy, .i w, .i h, .i least, .i x, .i y] => [.i (sideAt sx sy w h x y)] | _ => [])
def c28 : Contract := CFn sg28 (fun | [.i n, .i d] => 0 < d ∧ bigP n | _ => False) (fun | [.i n, .i d] => [.i (n / d)] | _ => [])
def c24 : Contract := CFn sg24 (fun | [.i sx, .i sy, .i w, .i h, .i least, .i y, .i f, .i t] => sideP sx sy w h least ∧ nearP 0 y | _ => False) (fun | [.i sx, .i sy, .i w, .i h, .i least, .i y, .i f, .i t] => [.i (rowStep sx sy w h least y f t).1, .i (rowStep sx sy w h least y f t).2] | _ => [])
def c22 : Contract := CFn sg22 (fun | [.i a0, .i a1, .i a2, .i a3, .i a4, .i a5, .i a6, .i b0, .i b1, .i b2, .i b3, .i b4, .i b5, .i b6, .i c0, .i c1, .i c2, .i c3, .i c4, .i c5, .i c6] => farP a0 a1 ∧ farP b0 b1 ∧ farP c0 c1 | _ => False) (fun | [.i a0, .i a1, .i a2, .i a3, .i a4, .i a5, .i a6, .i b0, .i b1, .i b2, .i b3, .i b4, .i b5, .i b6, .i c0, .i c1, .i c2, .i c3, .i c4, .i c5, .i c6] => [.l (sidesL a0 a1 b0 b1 c0 c1)] | _ => [])
def cHas (sg : Sig) : Contract := CFn sg (fun | [.i a0, .i a1, .i a2, .i a3, .i a4, .i a5, .i a6, .i b0, .i b1, .i b2, .i b3, .i b4, .i b5, .i b6, .i c0, .i c1, .i c2, .i c3, .i c4, .i c5, .i c6, .i x, .i y] => farP a0 a1 ∧ farP b0 b1 ∧ farP c0 c1 ∧ nearP x y | _ => False) (fun | [.i a0, .i a1, .i a2, .i a3, .i a4, .i a5, .i a6, .i b0, .i b1, .i b2, .i b3, .i b4, .i b5, .i b6, .i c0, .i c1, .i c2, .i c3, .i c4, .i c5, .i c6, .i x, .i y] => [.b (decide (hasP a0 a1 b0 b1 c0 c1 (256 * x + 128) (256 * y + 128)))] | _ => [])
def c25 : Contract := CFn sg25 (fun | [.i p0, .i p1, .i p2, .i p3, .i p4, .i p5, .i p6, .i q0, .i q1, .i q2, .i q3, .i q4, .i q5, .i q6, .i x, .i y] => farP p0 p1 ∧ farP q0 q1 ∧ nearP x y | _ => False) (fun | [.i p0, .i p1, .i p2, .i p3, .i p4, .i p5, .i p6, .i q0, .i q1, .i q2, .i q3, .i q4, .i q5, .i q6, .i x, .i y] => [.b (decide (leftP p0 p1 q0 q1 (256 * x + 128) (256 * y + 128)))] | _ => [])

theorem ok20 : ContractOk Try.prog 20 c20 := by
  refine contract_of (Γ := knownOf []) known_nil Try.func20 rfl rfl is20 fun ds hk hp => ?_
  split at hp
  · skip
    rename_i x y
    refine retB (P := farP x y) ?_
    simp only [Env.sets, Env.set, BE.den, IE.den, DE.den, DV.int, DV.bool, DV.list, LOp.den, List.map_cons, List.map_nil, Nat.reduceEqDiff, ↓reduceIte, reduceCtorEq, Bool.and_eq_true, Bool.or_eq_true, Bool.not_eq_true', Bool.not_eq_false', Bool.and_eq_false_iff, Bool.or_eq_false_iff, decide_eq_true_eq, decide_eq_false_iff_not]
    unfold farP
    omega
  · cases hp
theorem ok17 : ContractOk Try.prog 17 c17 := by
  refine contract_of (Γ := knownOf []) known_nil Try.func17 rfl rfl is17 fun ds hk hp => ?_
  split at hp
  · skip
    rename_i x y
    refine retB (P := nearP x y) ?_
    simp only [Env.sets, Env.set, BE.den, IE.den, DE.den, DV.int, DV.bool, DV.list, LOp.den, List.map_cons, List.map_nil, Nat.reduceEqDiff, ↓reduceIte, reduceCtorEq, Bool.and_eq_true, Bool.or_eq_true, Bool.not_eq_true', Bool.not_eq_false', Bool.and_eq_false_iff, Bool.or_eq_false_iff, decide_eq_true_eq, decide_eq_false_iff_not]
    unfold nearP
    omega
  · cases hp
theorem ok11 : ContractOk Try.prog 11 c11 := by
  refine contract_of (Γ := knownOf []) known_nil Try.func11 rfl rfl is11 fun ds hk hp => ?_
  split at hp
  · skip
    rename_i x y
    rfl
  · cases hp
theorem ok8 : ContractOk Try.prog 8 c8 := by
  refine contract_of (Γ := knownOf [(20, c20)]) (known_cons ok20 rfl known_nil) Try.func8 rfl rfl is8 fun ds hk hp => ?_
  split at hp
  · skip
    rename_i ax ay bx b' cx cy
    refine h_call (c := c20) rfl (trivial) fun rs hk hr => ?_
    have hr : rs = [.b (decide (farP ax ay))] := hr
    subst hr
    refine h_callg (c := c20) rfl (fun _ => trivial) fun rs hk hr2 => ?_
    obtain ⟨i2, rfl⟩ := kinds1b hk
    have hr2 : decide (farP ax ay) = true → [DV.b i2] = [DV.b (decide (farP bx b'))] := hr2
    refine h_callg (c := c20) rfl (fun _ => trivial) fun rs hk hr3 => ?_
    obtain ⟨i3, rfl⟩ := kinds1b hk
    have hr3 : (decide (farP ax ay) && i2) = true → [DV.b i3] = [DV.b (decide (farP cx cy))] := hr3
    refine retB (X := (decide (farP ax ay) && i2) && i3) (P := farP ax ay ∧ farP bx b' ∧ farP cx cy) ?_
    simp only [Bool.and_eq_true, decide_eq_true_eq] at *
    constructor
    · rintro ⟨⟨a, b⟩, c⟩
      refine ⟨a, ?_, ?_⟩
      · have := b_of (hr2 a); rw [b] at this; simpa using this.symm
      · have := b_of (hr3 ⟨a, b⟩); rw [c] at this; simpa using this.symm
    · rintro ⟨a, b, c⟩
      have e2 := b_of (hr2 a)
      have e2' : i2 = true := by rw [e2]; simp [b]
      have e3 := b_of (hr3 ⟨a, e2'⟩)
      exact ⟨⟨a, e2'⟩, by rw [e3]; simp [c]⟩
  · cases hp
theorem ok21 : ContractOk Try.prog 21 c21 := by
  refine contract_of (Γ := knownOf []) known_nil Try.func21 rfl rfl is21 fun ds hk hp => ?_
  split at hp
  · skip
    rename_i a b c d
    refine h_ite (fun g0 => ?_) (fun g0 => h_ite (fun g1 => ?_) (fun g1 => h_ite (fun g2 => ?_) (fun g2 => h_ite (fun g3 => ?_) (fun g3 => ?_))))
    all_goals simp only [Env.sets, Env.set, BE.den, IE.den, DE.den, DV.int, DV.bool, DV.list, LOp.den, List.map_cons, List.map_nil, Nat.reduceEqDiff, ↓reduceIte, reduceCtorEq, Bool.and_eq_true, Bool.or_eq_true, Bool.not_eq_true', Bool.not_eq_false', Bool.and_eq_false_iff, Bool.or_eq_false_iff, decide_eq_true_eq, decide_eq_false_iff_not] at *
    · exact retN (P := rightP a b c d) (by unfold rightP; omega)
    · exact retN (P := rightP a b c d) (by unfold rightP; omega)
    · exact retN (P := rightP a b c d) (by unfold rightP; omega)
    · exact retN (P := rightP a b c d) (by unfold rightP; omega)
    · refine retB (P := rightP a b c d) ?_
      simp only [Env.sets, Env.set, BE.den, IE.den, DE.den, DV.int, DV.bool, DV.list, LOp.den, List.map_cons, List.map_nil, Nat.reduceEqDiff, ↓reduceIte, reduceCtorEq, Bool.and_eq_true, Bool.or_eq_true, Bool.not_eq_true', Bool.not_eq_false', Bool.and_eq_false_iff, Bool.or_eq_false_iff, decide_eq_true_eq, decide_eq_false_iff_not]
      unfold rightP
      omega
  · cases hp
theorem ok23 : ContractOk Try.prog 23 c23 := by
  refine contract_of (Γ := knownOf []) known_nil Try.func23 rfl rfl is23 fun ds hk hp => ?_
  split at hp
  · skip
    rename_i a b c d
    refine h_ite (fun g0 => ?_) (fun g0 => h_ite (fun g1 => ?_) (fun g1 => h_ite (fun g2 => ?_) (fun g2 => h_ite (fun g3 => ?_) (fun g3 => ?_))))
    all_goals simp only [Env.sets, Env.set, BE.den, IE.den, DE.den, DV.int, DV.bool, DV.list, LOp.den, List.map_cons, List.map_nil, Nat.reduceEqDiff, ↓reduceIte, reduceCtorEq, Bool.and_eq_true, Bool.or_eq_true, Bool.not_eq_true', Bool.not_eq_false', Bool.and_eq_false_iff, Bool.or_eq_false_iff, decide_eq_true_eq, decide_eq_false_iff_not] at *
    · exact retN (P := rightP a b c d) (by unfold rightP; omega)
    · exact retN (P := rightP a b c d) (by unfold rightP; omega)
    · exact retN (P := rightP a b c d) (by unfold rightP; omega)
    · exact retN (P := rightP a b c d) (by unfold rightP; omega)
    · refine retB (P := rightP a b c d) ?_
      simp only [Env.sets, Env.set, BE.den, IE.den, DE.den, DV.int, DV.bool, DV.list, LOp.den, List.map_cons, List.map_nil, Nat.reduceEqDiff, ↓reduceIte, reduceCtorEq, Bool.and_eq_true, Bool.or_eq_true, Bool.not_eq_true', Bool.not_eq_false', Bool.and_eq_false_iff, Bool.or_eq_false_iff, decide_eq_true_eq, decide_eq_false_iff_not]
      unfold rightP
      omega
  · cases hp
theorem ok9 : ContractOk Try.prog 9 c9 := by
  refine contract_of (Γ := knownOf [(21, c21)]) (known_cons ok21 rfl known_nil) Try.func9 rfl rfl is9 fun ds hk hp => ?_
  split at hp
  · skip
    rename_i a b c d
    refine h_call (c := c21) rfl (trivial) fun rs hk hr => ?_
    have hr : rs = [.b (decide (rightP a b c d))] := hr
    subst hr
    refine h_ite (fun g => ?_) (fun g => ?_)
    · have g : (!decide (rightP a b c d)) = true := g
      simp only [Bool.not_eq_true', decide_eq_false_iff_not] at g
      exact retI (by rw [if_neg g]; rfl)
    · have g : (!decide (rightP a b c d)) = false := g
      simp only [Bool.not_eq_false', decide_eq_true_eq] at g
      have g' := g
      unfold rightP at g'
      have m := mul_bd (a := c - a) (b := d - b) (A := 8388608) (B := 8388608) (by omega) (by omega) (by omega) (by omega)
      iterate 3 refine h_need (by simp only [Env.sets, Env.set, BE.den, IE.den, DE.den, DV.int, DV.bool, DV.list, LOp.den, List.map_cons, List.map_nil, Nat.reduceEqDiff, ↓reduceIte, reduceCtorEq, Bool.and_eq_true, Bool.or_eq_true, Bool.not_eq_true', Bool.not_eq_false', Bool.and_eq_false_iff, Bool.or_eq_false_iff, decide_eq_true_eq, decide_eq_false_iff_not]; omega) ?_
      exact retI (by rw [if_pos g]; rfl)
  · cases hp
theorem ok15 : ContractOk Try.prog 15 (cArea sg15) := by
  refine contract_of (Γ := knownOf []) known_nil Try.func15 rfl rfl is15 fun ds hk hp => ?_
  split at hp
  · skip
    rename_i a0 a1 a2 a3 a4 a5 a6 b0 b1 b2 b3 b4 b5 b6 c0 c1 c2 c3 c4 c5 c6
    obtain ⟨p1, p2, p3⟩ := hp
    unfold farP at p1 p2
    unfold midP at p3
    have m1 := mul_bd (a := b0 - a0) (b := c1 - a1) (A := 536870912) (B := 1342177792) (by omega) (by omega) (by omega) (by omega)
    have m2 := mul_bd (a := b1 - a1) (b := c0 - a0) (A := 536870912) (B := 1342177792) (by omega) (by omega) (by omega) (by omega)
    iterate 7 refine h_need (by simp only [Env.sets, Env.set, BE.den, IE.den, DE.den, DV.int, DV.bool, DV.list, LOp.den, List.map_cons, List.map_nil, Nat.reduceEqDiff, ↓reduceIte, reduceCtorEq, Bool.and_eq_true, Bool.or_eq_true, Bool.not_eq_true', Bool.not_eq_false', Bool.and_eq_false_iff, Bool.or_eq_false_iff, decide_eq_true_eq, decide_eq_false_iff_not]; omega) ?_
    rfl
  · cases hp
theorem ok16 : ContractOk Try.prog 16 (cArea sg16) := by
  refine contract_of (Γ := knownOf []) known_nil Try.func16 rfl rfl is16 fun ds hk hp => ?_
  split at hp
  · skip
    rename_i a0 a1 a2 a3 a4 a5 a6 b0 b1 b2 b3 b4 b5 b6 c0 c1 c2 c3 c4 c5 c6
    obtain ⟨p1, p2, p3⟩ := hp
    unfold farP at p1 p2
    unfold midP at p3
    have m1 := mul_bd (a := b0 - a0) (b := c1 - a1) (A := 536870912) (B := 1342177792) (by omega) (by omega) (by omega) (by omega)
    have m2 := mul_bd (a := b1 - a1) (b := c0 - a0) (A := 536870912) (B := 1342177792) (by omega) (by omega) (by omega) (by omega)
    iterate 7 refine h_need (by simp only [Env.sets, Env.set, BE.den, IE.den, DE.den, DV.int, DV.bool, DV.list, LOp.den, List.map_cons, List.map_nil, Nat.reduceEqDiff, ↓reduceIte, reduceCtorEq, Bool.and_eq_true, Bool.or_eq_true, Bool.not_eq_true', Bool.not_eq_false', Bool.and_eq_false_iff, Bool.or_eq_false_iff, decide_eq_true_eq, decide_eq_false_iff_not]; omega) ?_
    rfl
  · cases hp
theorem ok27 : ContractOk Try.prog 27 c27 := by
  refine contract_of (Γ := knownOf []) known_nil Try.func27 rfl rfl is27 fun ds hk hp => ?_
  split at hp
  · skip
    rename_i p0 p1 p2 p3 p4 p5 p6 q0 q1 q2 q3 q4 q5 q6
    obtain ⟨p1', p2'⟩ := hp
    unfold farP at p1' p2'
    iterate 2 refine h_need (by simp only [Env.sets, Env.set, BE.den, IE.den, DE.den, DV.int, DV.bool, DV.list, LOp.den, List.map_cons, List.map_nil, Nat.reduceEqDiff, ↓reduceIte, reduceCtorEq, Bool.and_eq_true, Bool.or_eq_true, Bool.not_eq_true', Bool.not_eq_false', Bool.and_eq_false_iff, Bool.or_eq_false_iff, decide_eq_true_eq, decide_eq_false_iff_not]; omega) ?_
    refine h_ite (fun g => ?_) (fun g => ?_)
    · simp only [Env.sets, Env.set, BE.den, IE.den, DE.den, DV.int, DV.bool, DV.list, LOp.den, List.map_cons, List.map_nil, Nat.reduceEqDiff, ↓reduceIte, reduceCtorEq, Bool.and_eq_true, Bool.or_eq_true, Bool.not_eq_true', Bool.not_eq_false', Bool.and_eq_false_iff, Bool.or_eq_false_iff, decide_eq_true_eq, decide_eq_false_iff_not] at g
      show [DV.i p0, .i p1, .i (q0 - p0), .i (q1 - p1), .i 0] = [.i p0, .i p1, .i (q0 - p0), .i (q1 - p1), .i (leastI p0 p1 q0 q1)]
      unfold leastI
      rw [if_pos g]
    · simp only [Env.sets, Env.set, BE.den, IE.den, DE.den, DV.int, DV.bool, DV.list, LOp.den, List.map_cons, List.map_nil, Nat.reduceEqDiff, ↓reduceIte, reduceCtorEq, Bool.and_eq_true, Bool.or_eq_true, Bool.not_eq_true', Bool.not_eq_false', Bool.and_eq_false_iff, Bool.or_eq_false_iff, decide_eq_true_eq, decide_eq_false_iff_not] at g
      show [DV.i p0, .i p1, .i (q0 - p0), .i (q1 - p1), .i 1] = [.i p0, .i p1, .i (q0 - p0), .i (q1 - p1), .i (leastI p0 p1 q0 q1)]
      unfold leastI
      rw [if_neg (by omega)]
  · cases hp
theorem ok26 : ContractOk Try.prog 26 c26 := by
  refine contract_of (Γ := knownOf []) known_nil Try.func26 rfl rfl is26 fun ds hk hp => ?_
  split at hp
  · skip
    rename_i sx sy w h least x y
    obtain ⟨⟨p1, p2, p3, p4⟩, p5⟩ := hp
    unfold farP at p1
    unfold nearP at p5
    have m1 := mul_bd (a := w) (b := y * 256 + 128 - sy) (A := 536870912) (B := 1342177792) (by omega) (by omega) (by omega) (by omega)
    have m2 := mul_bd (a := h) (b := x * 256 + 128 - sx) (A := 536870912) (B := 1342177792) (by omega) (by omega) (by omega) (by omega)
    iterate 9 refine h_need (by simp only [Env.sets, Env.set, BE.den, IE.den, DE.den, DV.int, DV.bool, DV.list, LOp.den, List.map_cons, List.map_nil, Nat.reduceEqDiff, ↓reduceIte, reduceCtorEq, Bool.and_eq_true, Bool.or_eq_true, Bool.not_eq_true', Bool.not_eq_false', Bool.and_eq_false_iff, Bool.or_eq_false_iff, decide_eq_true_eq, decide_eq_false_iff_not]; omega) ?_
    rfl
  · cases hp
theorem ok28 : ContractOk Try.prog 28 c28 := by
  refine contract_of (Γ := knownOf []) known_nil Try.func28 rfl rfl is28 fun ds hk hp => ?_
  split at hp
  · skip
    rename_i n d
    obtain ⟨hd, h1, h2⟩ := hp
    have hf := floor_spec (n := n) hd
    have hb := tdiv_le hd h1 h2
    refine h_need (by simp only [Env.sets, Env.set, BE.den, IE.den, DE.den, DV.int, DV.bool, DV.list, LOp.den, List.map_cons, List.map_nil, Nat.reduceEqDiff, ↓reduceIte, reduceCtorEq, Bool.and_eq_true, Bool.or_eq_true, Bool.not_eq_true', Bool.not_eq_false', Bool.and_eq_false_iff, Bool.or_eq_false_iff, decide_eq_true_eq, decide_eq_false_iff_not]; omega) ?_
    refine h_ite (fun hc => ?_) (fun hc => ?_)
    · simp only [Env.sets, Env.set, BE.den, IE.den, DE.den, DV.int, DV.bool, DV.list, LOp.den, List.map_cons, List.map_nil, Nat.reduceEqDiff, ↓reduceIte, reduceCtorEq, Bool.and_eq_true, Bool.or_eq_true, Bool.not_eq_true', Bool.not_eq_false', Bool.and_eq_false_iff, Bool.or_eq_false_iff, decide_eq_true_eq, decide_eq_false_iff_not] at hc
      have := hf.1 hc
      refine h_need (by simp only [Env.sets, Env.set, BE.den, IE.den, DE.den, DV.int, DV.bool, DV.list, LOp.den, List.map_cons, List.map_nil, Nat.reduceEqDiff, ↓reduceIte, reduceCtorEq, Bool.and_eq_true, Bool.or_eq_true, Bool.not_eq_true', Bool.not_eq_false', Bool.and_eq_false_iff, Bool.or_eq_false_iff, decide_eq_true_eq, decide_eq_false_iff_not]; omega) ?_
      refine h_need (by simp only [Env.sets, Env.set, BE.den, IE.den, DE.den, DV.int, DV.bool, DV.list, LOp.den, List.map_cons, List.map_nil, Nat.reduceEqDiff, ↓reduceIte, reduceCtorEq, Bool.and_eq_true, Bool.or_eq_true, Bool.not_eq_true', Bool.not_eq_false', Bool.and_eq_false_iff, Bool.or_eq_false_iff, decide_eq_true_eq, decide_eq_false_iff_not]; omega) ?_
      show [DV.i _] = [DV.i (n / d)]
      simp only [Env.sets, Env.set, BE.den, IE.den, DE.den, DV.int, DV.bool, DV.list, LOp.den, List.map_cons, List.map_nil, Nat.reduceEqDiff, ↓reduceIte, reduceCtorEq, Bool.and_eq_true, Bool.or_eq_true, Bool.not_eq_true', Bool.not_eq_false', Bool.and_eq_false_iff, Bool.or_eq_false_iff, decide_eq_true_eq, decide_eq_false_iff_not, List.cons.injEq, DV.i.injEq, and_true]
      omega
    · simp only [Env.sets, Env.set, BE.den, IE.den, DE.den, DV.int, DV.bool, DV.list, LOp.den, List.map_cons, List.map_nil, Nat.reduceEqDiff, ↓reduceIte, reduceCtorEq, Bool.and_eq_true, Bool.or_eq_true, Bool.not_eq_true', Bool.not_eq_false', Bool.and_eq_false_iff, Bool.or_eq_false_iff, decide_eq_true_eq, decide_eq_false_iff_not] at hc
      have := hf.2 (by omega)
      refine h_need (by simp only [Env.sets, Env.set, BE.den, IE.den, DE.den, DV.int, DV.bool, DV.list, LOp.den, List.map_cons, List.map_nil, Nat.reduceEqDiff, ↓reduceIte, reduceCtorEq, Bool.and_eq_true, Bool.or_eq_true, Bool.not_eq_true', Bool.not_eq_false', Bool.and_eq_false_iff, Bool.or_eq_false_iff, decide_eq_true_eq, decide_eq_false_iff_not]; omega) ?_
      show [DV.i _] = [DV.i (n / d)]
      simp only [Env.sets, Env.set, BE.den, IE.den, DE.den, DV.int, DV.bool, DV.list, LOp.den, List.map_cons, List.map_nil, Nat.reduceEqDiff, ↓reduceIte, reduceCtorEq, Bool.and_eq_true, Bool.or_eq_true, Bool.not_eq_true', Bool.not_eq_false', Bool.and_eq_false_iff, Bool.or_eq_false_iff, decide_eq_true_eq, decide_eq_false_iff_not, List.cons.injEq, DV.i.injEq, and_true]
      omega
  · cases hp
theorem ediv_le {n d : Int} (hd : 0 < d) (h1 : -4000000000000000000 ≤ n) (h2 : n ≤ 4000000000000000000) : -4000000000000000000 ≤ n / d ∧ n / d ≤ 4000000000000000000 := by
  constructor
  · apply Int.le_ediv_of_mul_le hd
    have := Int.mul_nonneg (show (0:Int) ≤ 4000000000000000000 by omega) (show 0 ≤ d - 1 by omega)
    omega
  · apply Int.ediv_le_of_le_mul hd
    have := Int.mul_nonneg (show (0:Int) ≤ 4000000000000000000 by omega) (show 0 ≤ d - 1 by omega)
    omega
theorem side_bd {sx sy w h least x y : Int} (hp : sideP sx sy w h least) (hn : nearP x y) : -2000000000000000000 ≤ sideAt sx sy w h x y ∧ sideAt sx sy w h x y ≤ 2000000000000000000 := by
  obtain ⟨p1, p2, p3, p4⟩ := hp
  unfold farP at p1
  unfold nearP at hn
  have m1 := mul_bd (a := w) (b := y * 256 + 128 - sy) (A := 536870912) (B := 1342177792) (by omega) (by omega) (by omega) (by omega)
  have m2 := mul_bd (a := h) (b := x * 256 + 128 - sx) (A := 536870912) (B := 1342177792) (by omega) (by omega) (by omega) (by omega)
  unfold sideAt
  omega
theorem ok24 : ContractOk Try.prog 24 c24 := by
  refine contract_of (Γ := knownOf [(26, c26), (28, c28)]) (known_cons ok26 rfl (known_cons ok28 rfl known_nil)) Try.func24 rfl rfl is24 fun ds hk hp => ?_
  split at hp
  · skip
    rename_i sx sy w h least y f t
    obtain ⟨hs, hn⟩ := hp
    have hb := side_bd hs hn
    obtain ⟨p1, p2, p3, p4⟩ := id hs
    obtain ⟨s, hsd⟩ : ∃ s, sideAt sx sy w h 0 y = s := ⟨_, rfl⟩
    rw [hsd] at hb
    refine h_call (c := c26) rfl (show sideP sx sy w h least ∧ nearP 0 y from ⟨hs, hn⟩) fun rs hk hr => ?_
    have hr : rs = [.i (sideAt sx sy w h 0 y)] := hr
    rw [hsd] at hr
    subst hr
    have hF : ∀ p : Int × Int, rowStep sx sy w h least y f t = p → [DV.i p.1, .i p.2] = [DV.i (rowStep sx sy w h least y f t).1, .i (rowStep sx sy w h least y f t).2] := fun p h => by rw [h]
    refine h_need (by simp only [Env.sets, Env.set, BE.den, IE.den, DE.den, DV.int, DV.bool, DV.list, LOp.den, List.map_cons, List.map_nil, Nat.reduceEqDiff, ↓reduceIte, reduceCtorEq, Bool.and_eq_true, Bool.or_eq_true, Bool.not_eq_true', Bool.not_eq_false', Bool.and_eq_false_iff, Bool.or_eq_false_iff, decide_eq_true_eq, decide_eq_false_iff_not]; omega) ?_
    refine h_ite (fun g0 => ?_) (fun g0 => ?_)
    · simp only [Env.sets, Env.set, BE.den, IE.den, DE.den, DV.int, DV.bool, DV.list, LOp.den, List.map_cons, List.map_nil, Nat.reduceEqDiff, ↓reduceIte, reduceCtorEq, Bool.and_eq_true, Bool.or_eq_true, Bool.not_eq_true', Bool.not_eq_false', Bool.and_eq_false_iff, Bool.or_eq_false_iff, decide_eq_true_eq, decide_eq_false_iff_not] at g0
      have he := ediv_le (n := s - least) (d := h * 256) (by omega) (by omega) (by omega)
      refine h_need (by simp only [Env.sets, Env.set, BE.den, IE.den, DE.den, DV.int, DV.bool, DV.list, LOp.den, List.map_cons, List.map_nil, Nat.reduceEqDiff, ↓reduceIte, reduceCtorEq, Bool.and_eq_true, Bool.or_eq_true, Bool.not_eq_true', Bool.not_eq_false', Bool.and_eq_false_iff, Bool.or_eq_false_iff, decide_eq_true_eq, decide_eq_false_iff_not]; omega) ?_
      refine h_call (c := c28) rfl (show 0 < h * 256 ∧ bigP (s - least) by unfold bigP; omega) fun rs hk hr => ?_
      have hr : rs = [.i ((s - least) / (h * 256))] := hr
      subst hr
      refine h_need (by simp only [Env.sets, Env.set, BE.den, IE.den, DE.den, DV.int, DV.bool, DV.list, LOp.den, List.map_cons, List.map_nil, Nat.reduceEqDiff, ↓reduceIte, reduceCtorEq, Bool.and_eq_true, Bool.or_eq_true, Bool.not_eq_true', Bool.not_eq_false', Bool.and_eq_false_iff, Bool.or_eq_false_iff, decide_eq_true_eq, decide_eq_false_iff_not]; omega) ?_
      exact hF (f, min t ((s - least) / (h * 256) + 1)) (by unfold rowStep; rw [hsd, if_pos g0])
    · simp only [Env.sets, Env.set, BE.den, IE.den, DE.den, DV.int, DV.bool, DV.list, LOp.den, List.map_cons, List.map_nil, Nat.reduceEqDiff, ↓reduceIte, reduceCtorEq, Bool.and_eq_true, Bool.or_eq_true, Bool.not_eq_true', Bool.not_eq_false', Bool.and_eq_false_iff, Bool.or_eq_false_iff, decide_eq_true_eq, decide_eq_false_iff_not] at g0
      refine h_ite (fun g1 => ?_) (fun g1 => ?_)
      · simp only [Env.sets, Env.set, BE.den, IE.den, DE.den, DV.int, DV.bool, DV.list, LOp.den, List.map_cons, List.map_nil, Nat.reduceEqDiff, ↓reduceIte, reduceCtorEq, Bool.and_eq_true, Bool.or_eq_true, Bool.not_eq_true', Bool.not_eq_false', Bool.and_eq_false_iff, Bool.or_eq_false_iff, decide_eq_true_eq, decide_eq_false_iff_not] at g1
        have he := ediv_le (n := s - least) (d := (0 - h) * 256) (by omega) (by omega) (by omega)
        iterate 2 refine h_need (by simp only [Env.sets, Env.set, BE.den, IE.den, DE.den, DV.int, DV.bool, DV.list, LOp.den, List.map_cons, List.map_nil, Nat.reduceEqDiff, ↓reduceIte, reduceCtorEq, Bool.and_eq_true, Bool.or_eq_true, Bool.not_eq_true', Bool.not_eq_false', Bool.and_eq_false_iff, Bool.or_eq_false_iff, decide_eq_true_eq, decide_eq_false_iff_not]; omega) ?_
        refine h_call (c := c28) rfl (show 0 < (0 - h) * 256 ∧ bigP (s - least) by unfold bigP; omega) fun rs hk hr => ?_
        have hr : rs = [.i ((s - least) / ((0 - h) * 256))] := hr
        subst hr
        refine h_need (by simp only [Env.sets, Env.set, BE.den, IE.den, DE.den, DV.int, DV.bool, DV.list, LOp.den, List.map_cons, List.map_nil, Nat.reduceEqDiff, ↓reduceIte, reduceCtorEq, Bool.and_eq_true, Bool.or_eq_true, Bool.not_eq_true', Bool.not_eq_false', Bool.and_eq_false_iff, Bool.or_eq_false_iff, decide_eq_true_eq, decide_eq_false_iff_not]; omega) ?_
        exact hF (max f (0 - (s - least) / ((0 - h) * 256)), t) (by unfold rowStep; rw [hsd, if_neg g0, if_pos g1])
      · simp only [Env.sets, Env.set, BE.den, IE.den, DE.den, DV.int, DV.bool, DV.list, LOp.den, List.map_cons, List.map_nil, Nat.reduceEqDiff, ↓reduceIte, reduceCtorEq, Bool.and_eq_true, Bool.or_eq_true, Bool.not_eq_true', Bool.not_eq_false', Bool.and_eq_false_iff, Bool.or_eq_false_iff, decide_eq_true_eq, decide_eq_false_iff_not] at g1
        refine h_ite (fun g2 => ?_) (fun g2 => ?_)
        · simp only [Env.sets, Env.set, BE.den, IE.den, DE.den, DV.int, DV.bool, DV.list, LOp.den, List.map_cons, List.map_nil, Nat.reduceEqDiff, ↓reduceIte, reduceCtorEq, Bool.and_eq_true, Bool.or_eq_true, Bool.not_eq_true', Bool.not_eq_false', Bool.and_eq_false_iff, Bool.or_eq_false_iff, decide_eq_true_eq, decide_eq_false_iff_not] at g2
          exact hF (f, f) (by unfold rowStep; rw [hsd, if_neg g0, if_neg g1, if_pos g2])
        · simp only [Env.sets, Env.set, BE.den, IE.den, DE.den, DV.int, DV.bool, DV.list, LOp.den, List.map_cons, List.map_nil, Nat.reduceEqDiff, ↓reduceIte, reduceCtorEq, Bool.and_eq_true, Bool.or_eq_true, Bool.not_eq_true', Bool.not_eq_false', Bool.and_eq_false_iff, Bool.or_eq_false_iff, decide_eq_true_eq, decide_eq_false_iff_not] at g2
          exact hF (f, t) (by unfold rowStep; rw [hsd, if_neg g0, if_neg g1, if_neg g2])
  · cases hp
theorem ok22 : ContractOk Try.prog 22 c22 := by
  refine contract_of (Γ := knownOf [(15, (cArea sg15)), (27, c27)]) (known_cons ok15 rfl (known_cons ok27 rfl known_nil)) Try.func22 rfl rfl is22 fun ds hk hp => ?_
  split at hp
  · skip
    rename_i a0 a1 a2 a3 a4 a5 a6 b0 b1 b2 b3 b4 b5 b6 c0 c1 c2 c3 c4 c5 c6
    obtain ⟨ha, hb, hc⟩ := hp
    refine h_call (c := cArea sg15) rfl (show farP a0 a1 ∧ farP b0 b1 ∧ midP c0 c1 from ⟨ha, hb, by unfold farP at hc; unfold midP; omega⟩) fun rs hk hr => ?_
    have hr : rs = [.i (areaI a0 a1 b0 b1 c0 c1)] := hr
    subst hr
    have hF : ∀ l : List (List Int), sidesL a0 a1 b0 b1 c0 c1 = l → [DV.l l] = [DV.l (sidesL a0 a1 b0 b1 c0 c1)] := fun p h => by rw [h]
    refine h_ite (fun g => ?_) (fun g => ?_)
    · simp only [Env.sets, Env.set, BE.den, IE.den, DE.den, DV.int, DV.bool, DV.list, LOp.den, List.map_cons, List.map_nil, Nat.reduceEqDiff, ↓reduceIte, reduceCtorEq, Bool.and_eq_true, Bool.or_eq_true, Bool.not_eq_true', Bool.not_eq_false', Bool.and_eq_false_iff, Bool.or_eq_false_iff, decide_eq_true_eq, decide_eq_false_iff_not] at g
      refine h_call (c := c27) rfl (show farP a0 a1 ∧ farP c0 c1 from ⟨ha, hc⟩) fun rs hk hr => ?_
      have hr : rs = [.i a0, .i a1, .i (c0 - a0), .i (c1 - a1), .i (leastI a0 a1 c0 c1)] := hr
      subst hr
      refine h_call (c := c27) rfl (show farP c0 c1 ∧ farP b0 b1 from ⟨hc, hb⟩) fun rs hk hr => ?_
      have hr : rs = [.i c0, .i c1, .i (b0 - c0), .i (b1 - c1), .i (leastI c0 c1 b0 b1)] := hr
      subst hr
      refine h_call (c := c27) rfl (show farP b0 b1 ∧ farP a0 a1 from ⟨hb, ha⟩) fun rs hk hr => ?_
      have hr : rs = [.i b0, .i b1, .i (a0 - b0), .i (a1 - b1), .i (leastI b0 b1 a0 a1)] := hr
      subst hr
      refine h_let ?_
      exact hF [sideOf a0 a1 c0 c1, sideOf c0 c1 b0 b1, sideOf b0 b1 a0 a1] (by unfold sidesL; rw [if_pos g])
    · simp only [Env.sets, Env.set, BE.den, IE.den, DE.den, DV.int, DV.bool, DV.list, LOp.den, List.map_cons, List.map_nil, Nat.reduceEqDiff, ↓reduceIte, reduceCtorEq, Bool.and_eq_true, Bool.or_eq_true, Bool.not_eq_true', Bool.not_eq_false', Bool.and_eq_false_iff, Bool.or_eq_false_iff, decide_eq_true_eq, decide_eq_false_iff_not] at g
      refine h_ite (fun g2 => ?_) (fun g2 => ?_)
      · simp only [Env.sets, Env.set, BE.den, IE.den, DE.den, DV.int, DV.bool, DV.list, LOp.den, List.map_cons, List.map_nil, Nat.reduceEqDiff, ↓reduceIte, reduceCtorEq, Bool.and_eq_true, Bool.or_eq_true, Bool.not_eq_true', Bool.not_eq_false', Bool.and_eq_false_iff, Bool.or_eq_false_iff, decide_eq_true_eq, decide_eq_false_iff_not] at g2
        exact hF [] (by unfold sidesL; rw [if_neg g, if_pos g2])
      · simp only [Env.sets, Env.set, BE.den, IE.den, DE.den, DV.int, DV.bool, DV.list, LOp.den, List.map_cons, List.map_nil, Nat.reduceEqDiff, ↓reduceIte, reduceCtorEq, Bool.and_eq_true, Bool.or_eq_true, Bool.not_eq_true', Bool.not_eq_false', Bool.and_eq_false_iff, Bool.or_eq_false_iff, decide_eq_true_eq, decide_eq_false_iff_not] at g2
        refine h_call (c := c27) rfl (show farP a0 a1 ∧ farP b0 b1 from ⟨ha, hb⟩) fun rs hk hr => ?_
        have hr : rs = [.i a0, .i a1, .i (b0 - a0), .i (b1 - a1), .i (leastI a0 a1 b0 b1)] := hr
        subst hr
        refine h_call (c := c27) rfl (show farP b0 b1 ∧ farP c0 c1 from ⟨hb, hc⟩) fun rs hk hr => ?_
        have hr : rs = [.i b0, .i b1, .i (c0 - b0), .i (c1 - b1), .i (leastI b0 b1 c0 c1)] := hr
        subst hr
        refine h_call (c := c27) rfl (show farP c0 c1 ∧ farP a0 a1 from ⟨hc, ha⟩) fun rs hk hr => ?_
        have hr : rs = [.i c0, .i c1, .i (a0 - c0), .i (a1 - c1), .i (leastI c0 c1 a0 a1)] := hr
        subst hr
        refine h_let ?_
        exact hF [sideOf a0 a1 b0 b1, sideOf b0 b1 c0 c1, sideOf c0 c1 a0 a1] (by unfold sidesL; rw [if_neg g, if_neg g2])
  · cases hp
theorem ok25 : ContractOk Try.prog 25 c25 := by
  refine contract_of (Γ := knownOf [(16, (cArea sg16))]) (known_cons ok16 rfl known_nil) Try.func25 rfl rfl is25 fun ds hk hp => ?_
  split at hp
  · skip
    rename_i p0 p1 p2 p3 p4 p5 p6 q0 q1 q2 q3 q4 q5 q6 x y
    obtain ⟨ha, hb, hn⟩ := hp
    have hn' := hn
    unfold nearP at hn'
    iterate 4 refine h_need (by simp only [Env.sets, Env.set, BE.den, IE.den, DE.den, DV.int, DV.bool, DV.list, LOp.den, List.map_cons, List.map_nil, Nat.reduceEqDiff, ↓reduceIte, reduceCtorEq, Bool.and_eq_true, Bool.or_eq_true, Bool.not_eq_true', Bool.not_eq_false', Bool.and_eq_false_iff, Bool.or_eq_false_iff, decide_eq_true_eq, decide_eq_false_iff_not]; omega) ?_
    refine h_call (c := cArea sg16) rfl (show farP p0 p1 ∧ farP q0 q1 ∧ midP (256 * x + 128) (256 * y + 128) from ⟨ha, hb, by unfold midP; omega⟩) fun rs hk hr => ?_
    have hr : rs = [.i (areaI p0 p1 q0 q1 (256 * x + 128) (256 * y + 128))] := hr
    subst hr
    refine retB (P := leftP p0 p1 q0 q1 (256 * x + 128) (256 * y + 128)) ?_
    simp only [Env.sets, Env.set, BE.den, IE.den, DE.den, DV.int, DV.bool, DV.list, LOp.den, List.map_cons, List.map_nil, Nat.reduceEqDiff, ↓reduceIte, reduceCtorEq, Bool.and_eq_true, Bool.or_eq_true, Bool.not_eq_true', Bool.not_eq_false', Bool.and_eq_false_iff, Bool.or_eq_false_iff, decide_eq_true_eq, decide_eq_false_iff_not]
    unfold leftP leastI
    generalize areaI p0 p1 q0 q1 (256 * x + 128) (256 * y + 128) = s
    split <;> omega
  · cases hp
end Go.Proofs.Ytmnnaofonefobaa.Fns
