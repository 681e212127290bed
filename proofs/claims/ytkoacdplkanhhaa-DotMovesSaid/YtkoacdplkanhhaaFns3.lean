/- Layer 19: samples, fragments, all of a rectangle. -/
import Derived.Test.YtkoacdplkanhhaaFns2
set_option linter.unusedVariables false
set_option linter.unusedSimpArgs false
set_option maxRecDepth 10000
namespace Go.Proofs.Ytkoacdplkanhhaa.Fns
open Go.Sx Go.Proofs.Ytkoacdplkanhhaa.Trees

/-! ### Counts -/
def cnt : Nat → (Nat → Int) → Int
  | 0, _ => 0
  | n + 1, f => cnt n f + f n
theorem cnt_congr {n : Nat} {f g : Nat → Int} (h : ∀ i, i < n → f i = g i) : cnt n f = cnt n g := by
  induction n with
  | zero => rfl
  | succ n ih => simp only [cnt]; rw [ih (fun i hi => h i (by omega)), h n (by omega)]
theorem cnt_add {n : Nat} {f g : Nat → Int} : cnt n (fun i => f i + g i) = cnt n f + cnt n g := by
  induction n with
  | zero => rfl
  | succ n ih => simp only [cnt, ih]; omega
theorem cnt_zero {n : Nat} : cnt n (fun _ => 0) = 0 := by
  induction n with
  | zero => rfl
  | succ n ih => simp only [cnt, ih]; omega
theorem cnt_swap {n m : Nat} {f : Nat → Nat → Int} : cnt n (fun i => cnt m (fun k => f i k)) = cnt m (fun k => cnt n (fun i => f i k)) := by
  induction n with
  | zero => simp only [cnt, cnt_zero]
  | succ n ih => simp only [cnt, ih, cnt_add]
theorem cnt_le {n : Nat} {f : Nat → Int} {c : Int} (h : ∀ i, i < n → f i ≤ c) : cnt n f ≤ n * c := by
  induction n with
  | zero => simp [cnt]
  | succ n ih =>
    have h1 := ih fun i hi => h i (by omega)
    have h2 := h n (by omega)
    simp only [cnt]
    have : ((n + 1 : Nat) : Int) * c = n * c + c := by rw [Int.natCast_add, Int.add_mul]; simp
    omega
theorem cnt_ge {n : Nat} {f : Nat → Int} (h : ∀ i, i < n → 0 ≤ f i) : 0 ≤ cnt n f := by
  induction n with
  | zero => simp [cnt]
  | succ n ih =>
    have h1 := ih fun i hi => h i (by omega)
    have h2 := h n (by omega)
    simp only [cnt]
    omega
def ind (X Y Q x y : Int) (i k : Nat) : Int := if (256 * x + 32 * i + 16 - X) * (256 * x + 32 * i + 16 - X) + (256 * y + 32 * k + 16 - Y) * (256 * y + 32 * k + 16 - Y) < Q then 1 else 0
def cov (X Y Q x y : Int) : Int := cnt 8 fun i => cnt 8 fun k => ind X Y Q x y i k
theorem ind_01 {X Y Q x y : Int} {i k : Nat} : 0 ≤ ind X Y Q x y i k ∧ ind X Y Q x y i k ≤ 1 := by unfold ind; split <;> omega
theorem cnt_ind {X Y Q x y : Int} {n k : Nat} : 0 ≤ cnt n (fun i => ind X Y Q x y i k) ∧ cnt n (fun i => ind X Y Q x y i k) ≤ n := by
  have h1 := cnt_ge (n := n) (f := fun i => ind X Y Q x y i k) fun i _ => ind_01.1
  have h2 := cnt_le (n := n) (f := fun i => ind X Y Q x y i k) (c := 1) fun i _ => ind_01.2
  exact ⟨h1, by omega⟩
theorem cnt_ind' {X Y Q x y : Int} {n i : Nat} : 0 ≤ cnt n (fun k => ind X Y Q x y i k) ∧ cnt n (fun k => ind X Y Q x y i k) ≤ n := by
  have h1 := cnt_ge (n := n) (f := fun k => ind X Y Q x y i k) fun i _ => ind_01.1
  have h2 := cnt_le (n := n) (f := fun k => ind X Y Q x y i k) (c := 1) fun i _ => ind_01.2
  exact ⟨h1, by omega⟩
theorem cnt2_ind {X Y Q x y : Int} {m n : Nat} : 0 ≤ cnt m (fun k => cnt n (fun i => ind X Y Q x y i k)) ∧ cnt m (fun k => cnt n (fun i => ind X Y Q x y i k)) ≤ m * n :=
  ⟨cnt_ge fun k _ => cnt_ind.1, cnt_le fun k _ => cnt_ind.2⟩
theorem cnt2_ind' {X Y Q x y : Int} {m n : Nat} : 0 ≤ cnt m (fun i => cnt n (fun k => ind X Y Q x y i k)) ∧ cnt m (fun i => cnt n (fun k => ind X Y Q x y i k)) ≤ m * n :=
  ⟨cnt_ge fun k _ => cnt_ind'.1, cnt_le fun k _ => cnt_ind'.2⟩
theorem cov_01 {X Y Q x y : Int} : 0 ≤ cov X Y Q x y ∧ cov X Y Q x y ≤ 64 := by
  have := cnt2_ind' (X := X) (Y := Y) (Q := Q) (x := x) (y := y) (m := 8) (n := 8)
  unfold cov; omega
theorem sqb {P : Int} (h1 : -1400000000 ≤ P) (h2 : P ≤ 1400000000) : 0 ≤ P * P ∧ P * P ≤ 1960000000000000000 := by
  have := mul_bd h1 h2 h1 h2
  refine ⟨?_, by omega⟩
  rcases Int.le_total 0 P with h | h
  · exact Int.mul_nonneg h h
  · exact Int.mul_nonneg_of_nonpos_of_nonpos h h
theorem h_again2 {Γ : Known} {R : List DV → Prop} {env : Env} {F : Nat → List DV → Prop} {id id' : Nat} {vals : List DE} {G G' : List DV → Prop} (hne : (id == id') = false) (h : G (vals.map (DE.den env))) : (Tree.again id vals).holds Γ R env (upF (upF F id G) id' G') := by
  simp only [beq_eq_false_iff_ne, ne_eq] at hne
  simpa [Tree.holds, upF, hne] using h
def nearP (x y : Int) : Prop := (-4194304 ≤ x ∧ x ≤ 4194304) ∧ (-4194304 ≤ y ∧ y ≤ 4194304)
def midP (X Y : Int) : Prop := (-268435456 ≤ X ∧ X ≤ 268435456) ∧ (-268435456 ≤ Y ∧ Y ≤ 268435456)
def c36 : Contract := CFn sg36 (fun | [.i X, .i Y, .i Z, .i p, .i q, .i r, .i s, .i x, .i y, .i Q] => midP X Y ∧ nearP x y ∧ 0 ≤ Q ∧ Q ≤ 1000000000000 | _ => False) (fun | [.i X, .i Y, .i Z, .i p, .i q, .i r, .i s, .i x, .i y, .i Q] => [.i (cov X Y Q x y)] | _ => [])
def c30 : Contract := CFn sg30 (fun | [.i X, .i Y, .i Z, .i p, .i q, .i r, .i s, .i S, .i x, .i y] => midP X Y ∧ nearP x y ∧ 1 ≤ S ∧ S ≤ 64 | _ => False) (fun | [.i X, .i Y, .i Z, .i p, .i q, .i r, .i s, .i S, .i x, .i y] => [.i (cov X Y (S * 128 * (S * 128)) x y)] | _ => [])
theorem ok36 : ContractOk Try.prog 36 c36 := by
  refine contract_of (Γ := knownOf []) known_nil Try.func36 rfl rfl is36 fun ds hk hp => ?_
  split at hp
  · skip
    rename_i X Y Z p q r s x y Q
    obtain ⟨⟨⟨x1, x2⟩, y1, y2⟩, ⟨⟨x3, x4⟩, y3, y4⟩, q1, q2⟩ := hp
    refine h_loop (fun ds => ∃ k : Nat, ds = [.i (cnt k fun k => cnt 8 fun i => ind X Y Q x y i k), .i k] ∧ k ≤ 8) (fun | [_, .i k] => (8 - k).toNat | _ => 0) ⟨0, rfl, by omega⟩ ?_
    intro ds _ ⟨k, hds, hk8⟩
    subst hds
    have ho := cnt2_ind (X := X) (Y := Y) (Q := Q) (x := x) (y := y) (m := k) (n := 8)
    refine h_ite (fun hc => ?_) (fun hc => ?_)
    · have hc : decide ((k : Int) < 8) = true := hc
      simp only [Env.sets, Env.set, BE.den, IE.den, DE.den, DV.int, DV.bool, DV.list, LOp.den, List.map_cons, List.map_nil, Nat.reduceEqDiff, ↓reduceIte, reduceCtorEq, Bool.and_eq_true, Bool.or_eq_true, Bool.not_eq_true', Bool.not_eq_false', Bool.and_eq_false_iff, Bool.or_eq_false_iff, decide_eq_true_eq, decide_eq_false_iff_not] at hc
      have hb := sqb (P := (y * 256 + (k : Int) * 32 + 16 - Y)) (by omega) (by omega)
      refine h_needR (y * 256) rfl (by omega) ?_
      refine h_needR ((k : Int) * 32) rfl (by omega) ?_
      refine h_needR (y * 256 + (k : Int) * 32) rfl (by omega) ?_
      refine h_needR (y * 256 + (k : Int) * 32 + 16) rfl (by omega) ?_
      refine h_needR (y * 256 + (k : Int) * 32 + 16 - Y) rfl (by omega) ?_
      refine h_needR ((y * 256 + (k : Int) * 32 + 16 - Y) * (y * 256 + (k : Int) * 32 + 16 - Y)) rfl (by omega) ?_
      refine h_needR (Q - (y * 256 + (k : Int) * 32 + 16 - Y) * (y * 256 + (k : Int) * 32 + 16 - Y)) rfl (by omega) ?_
      refine h_loop (fun ds => ∃ i : Nat, ds = [.i ((cnt k fun k => cnt 8 fun i => ind X Y Q x y i k) + cnt i fun i => ind X Y Q x y i k), .i i] ∧ i ≤ 8) (fun | [_, .i i] => (8 - i).toNat | _ => 0) ⟨0, by simp [DE.den, IE.den, cnt, Env.sets, Env.set, DV.int], by omega⟩ ?_
      intro ds _ ⟨i, hds, hi8⟩
      subst hds
      have hi := cnt_ind (X := X) (Y := Y) (Q := Q) (x := x) (y := y) (n := i) (k := k)
      refine h_ite (fun hc2 => ?_) (fun hc2 => ?_)
      · have hc2 : decide ((i : Int) < 8) = true := hc2
        simp only [Env.sets, Env.set, BE.den, IE.den, DE.den, DV.int, DV.bool, DV.list, LOp.den, List.map_cons, List.map_nil, Nat.reduceEqDiff, ↓reduceIte, reduceCtorEq, Bool.and_eq_true, Bool.or_eq_true, Bool.not_eq_true', Bool.not_eq_false', Bool.and_eq_false_iff, Bool.or_eq_false_iff, decide_eq_true_eq, decide_eq_false_iff_not] at hc2
        have ha := sqb (P := (x * 256 + (i : Int) * 32 + 16 - X)) (by omega) (by omega)
        have ea : (x * 256 + (i : Int) * 32 + 16 - X) = 256 * x + 32 * i + 16 - X := by omega
        have eb : (y * 256 + (k : Int) * 32 + 16 - Y) = 256 * y + 32 * k + 16 - Y := by omega
        refine h_needR (x * 256) rfl (by omega) ?_
        refine h_needR ((i : Int) * 32) rfl (by omega) ?_
        refine h_needR (x * 256 + (i : Int) * 32) rfl (by omega) ?_
        refine h_needR (x * 256 + (i : Int) * 32 + 16) rfl (by omega) ?_
        refine h_needR (x * 256 + (i : Int) * 32 + 16 - X) rfl (by omega) ?_
        refine h_needR ((x * 256 + (i : Int) * 32 + 16 - X) * (x * 256 + (i : Int) * 32 + 16 - X)) rfl (by omega) ?_
        refine h_ite (fun g => ?_) (fun g => ?_)
        · have g : decide ((x * 256 + (i : Int) * 32 + 16 - X) * (x * 256 + (i : Int) * 32 + 16 - X) < Q - (y * 256 + (k : Int) * 32 + 16 - Y) * (y * 256 + (k : Int) * 32 + 16 - Y)) = true := g
          rw [decide_eq_true_eq] at g
          have e : ind X Y Q x y i k = 1 := by unfold ind; rw [← ea, ← eb, if_pos (by omega)]
          refine h_needR ((cnt k fun k => cnt 8 fun i => ind X Y Q x y i k) + (cnt i fun i => ind X Y Q x y i k) + 1) rfl (by omega) ?_
          refine h_needR ((i : Int) + 1) rfl (by omega) (h_again ⟨⟨i + 1, ?_, by omega⟩, ?_⟩)
          · show [DV.i ((cnt k fun k => cnt 8 fun i => ind X Y Q x y i k) + (cnt i fun i => ind X Y Q x y i k) + 1), DV.i ((i : Int) + 1)] = [DV.i ((cnt k fun k => cnt 8 fun i => ind X Y Q x y i k) + ((cnt i fun i => ind X Y Q x y i k) + ind X Y Q x y i k)), DV.i ((i + 1 : Nat) : Int)]
            rw [e, Int.add_assoc]; rfl
          · show (8 - ((i : Int) + 1)).toNat < (8 - (i : Int)).toNat
            omega
        · have g : decide ((x * 256 + (i : Int) * 32 + 16 - X) * (x * 256 + (i : Int) * 32 + 16 - X) < Q - (y * 256 + (k : Int) * 32 + 16 - Y) * (y * 256 + (k : Int) * 32 + 16 - Y)) = false := g
          rw [decide_eq_false_iff_not] at g
          have e : ind X Y Q x y i k = 0 := by unfold ind; rw [← ea, ← eb, if_neg (by omega)]
          refine h_needR ((i : Int) + 1) rfl (by omega) (h_again ⟨⟨i + 1, ?_, by omega⟩, ?_⟩)
          · show [DV.i ((cnt k fun k => cnt 8 fun i => ind X Y Q x y i k) + (cnt i fun i => ind X Y Q x y i k)), DV.i ((i : Int) + 1)] = [DV.i ((cnt k fun k => cnt 8 fun i => ind X Y Q x y i k) + ((cnt i fun i => ind X Y Q x y i k) + ind X Y Q x y i k)), DV.i ((i + 1 : Nat) : Int)]
            rw [e, Int.add_zero]; rfl
          · show (8 - ((i : Int) + 1)).toNat < (8 - (i : Int)).toNat
            omega
      · have hc2 : decide ((i : Int) < 8) = false := hc2
        simp only [Env.sets, Env.set, BE.den, IE.den, DE.den, DV.int, DV.bool, DV.list, LOp.den, List.map_cons, List.map_nil, Nat.reduceEqDiff, ↓reduceIte, reduceCtorEq, Bool.and_eq_true, Bool.or_eq_true, Bool.not_eq_true', Bool.not_eq_false', Bool.and_eq_false_iff, Bool.or_eq_false_iff, decide_eq_true_eq, decide_eq_false_iff_not] at hc2
        have : i = 8 := by omega
        subst this
        refine h_needR ((k : Int) + 1) rfl (by omega) (h_again2 rfl ⟨⟨k + 1, rfl, by omega⟩, ?_⟩)
        show (8 - ((k : Int) + 1)).toNat < (8 - (k : Int)).toNat
        omega
    · have hc : decide ((k : Int) < 8) = false := hc
      simp only [Env.sets, Env.set, BE.den, IE.den, DE.den, DV.int, DV.bool, DV.list, LOp.den, List.map_cons, List.map_nil, Nat.reduceEqDiff, ↓reduceIte, reduceCtorEq, Bool.and_eq_true, Bool.or_eq_true, Bool.not_eq_true', Bool.not_eq_false', Bool.and_eq_false_iff, Bool.or_eq_false_iff, decide_eq_true_eq, decide_eq_false_iff_not] at hc
      have : k = 8 := by omega
      subst this
      show [DV.i _] = [DV.i (cov X Y Q x y)]
      unfold cov
      rw [cnt_swap]
      rfl
  · cases hp
theorem ok30 : ContractOk Try.prog 30 c30 := by
  refine contract_of (Γ := knownOf []) known_nil Try.func30 rfl rfl is30 fun ds hk hp => ?_
  split at hp
  · skip
    rename_i X Y Z p q r s S x y
    obtain ⟨⟨⟨x1, x2⟩, y1, y2⟩, ⟨⟨x3, x4⟩, y3, y4⟩, s1, s2⟩ := hp
    have q1 := mul_bd (a := 128 * S * 128) (b := S) (A := 1048576) (B := 64) (by omega) (by omega) (by omega) (by omega)
    have qe : 128 * S * 128 * S = S * 128 * (S * 128) := by grind
    refine h_loop (fun ds => ∃ i : Nat, ds = [.i (cnt i fun i => cnt 8 fun k => ind X Y (S * 128 * (S * 128)) x y i k), .i i] ∧ i ≤ 8) (fun | [_, .i k] => (8 - k).toNat | _ => 0) ⟨0, rfl, by omega⟩ ?_
    intro ds _ ⟨i, hds, hi8⟩
    subst hds
    have ho := cnt2_ind' (X := X) (Y := Y) (Q := S * 128 * (S * 128)) (x := x) (y := y) (m := i) (n := 8)
    refine h_ite (fun hc => ?_) (fun hc => ?_)
    · have hc : decide ((i : Int) < 8) = true := hc
      simp only [Env.sets, Env.set, BE.den, IE.den, DE.den, DV.int, DV.bool, DV.list, LOp.den, List.map_cons, List.map_nil, Nat.reduceEqDiff, ↓reduceIte, reduceCtorEq, Bool.and_eq_true, Bool.or_eq_true, Bool.not_eq_true', Bool.not_eq_false', Bool.and_eq_false_iff, Bool.or_eq_false_iff, decide_eq_true_eq, decide_eq_false_iff_not] at hc
      have ha := sqb (P := (256 * x + 32 * (i : Int) + 16 - X)) (by omega) (by omega)
      refine h_loop (fun ds => ∃ k : Nat, ds = [.i ((cnt i fun i => cnt 8 fun k => ind X Y (S * 128 * (S * 128)) x y i k) + (cnt k fun k => ind X Y (S * 128 * (S * 128)) x y i k)), .i k] ∧ k ≤ 8) (fun | [_, .i k] => (8 - k).toNat | _ => 0) ⟨0, by simp [DE.den, IE.den, cnt, Env.sets, Env.set, DV.int], by omega⟩ ?_
      intro ds _ ⟨k, hds, hk8⟩
      subst hds
      have hi := cnt_ind' (X := X) (Y := Y) (Q := S * 128 * (S * 128)) (x := x) (y := y) (n := k) (i := i)
      refine h_ite (fun hc2 => ?_) (fun hc2 => ?_)
      · have hc2 : decide ((k : Int) < 8) = true := hc2
        simp only [Env.sets, Env.set, BE.den, IE.den, DE.den, DV.int, DV.bool, DV.list, LOp.den, List.map_cons, List.map_nil, Nat.reduceEqDiff, ↓reduceIte, reduceCtorEq, Bool.and_eq_true, Bool.or_eq_true, Bool.not_eq_true', Bool.not_eq_false', Bool.and_eq_false_iff, Bool.or_eq_false_iff, decide_eq_true_eq, decide_eq_false_iff_not] at hc2
        have hb := sqb (P := (256 * y + 32 * (k : Int) + 16 - Y)) (by omega) (by omega)
        refine h_needR (256 * x) rfl (by omega) ?_
        refine h_needR (32 * (i : Int)) rfl (by omega) ?_
        refine h_needR (256 * x + 32 * (i : Int)) rfl (by omega) ?_
        refine h_needR (256 * x + 32 * (i : Int) + 16) rfl (by omega) ?_
        refine h_needR (256 * x + 32 * (i : Int) + 16 - X) rfl (by omega) ?_
        refine h_needR (256 * y) rfl (by omega) ?_
        refine h_needR (32 * (k : Int)) rfl (by omega) ?_
        refine h_needR (256 * y + 32 * (k : Int)) rfl (by omega) ?_
        refine h_needR (256 * y + 32 * (k : Int) + 16) rfl (by omega) ?_
        refine h_needR (256 * y + 32 * (k : Int) + 16 - Y) rfl (by omega) ?_
        refine h_needR ((256 * x + 32 * (i : Int) + 16 - X) * (256 * x + 32 * (i : Int) + 16 - X)) rfl (by omega) ?_
        refine h_needR ((256 * y + 32 * (k : Int) + 16 - Y) * (256 * y + 32 * (k : Int) + 16 - Y)) rfl (by omega) ?_
        refine h_needR ((256 * x + 32 * (i : Int) + 16 - X) * (256 * x + 32 * (i : Int) + 16 - X) + (256 * y + 32 * (k : Int) + 16 - Y) * (256 * y + 32 * (k : Int) + 16 - Y)) rfl (by omega) ?_
        refine h_needR (128 * S) rfl (by omega) ?_
        refine h_needR (128 * S * 128) rfl (by omega) ?_
        refine h_needR (128 * S * 128 * S) rfl (by omega) ?_
        refine h_ite (fun g => ?_) (fun g => ?_)
        · have g : decide ((256 * x + 32 * (i : Int) + 16 - X) * (256 * x + 32 * (i : Int) + 16 - X) + (256 * y + 32 * (k : Int) + 16 - Y) * (256 * y + 32 * (k : Int) + 16 - Y) < 128 * S * 128 * S) = true := g
          rw [decide_eq_true_eq, qe] at g
          have e : ind X Y (S * 128 * (S * 128)) x y i k = 1 := by unfold ind; rw [if_pos g]
          refine h_needR ((cnt i fun i => cnt 8 fun k => ind X Y (S * 128 * (S * 128)) x y i k) + (cnt k fun k => ind X Y (S * 128 * (S * 128)) x y i k) + 1) rfl (by omega) ?_
          refine h_needR ((k : Int) + 1) rfl (by omega) (h_again ⟨⟨k + 1, ?_, by omega⟩, ?_⟩)
          · show [DV.i ((cnt i fun i => cnt 8 fun k => ind X Y (S * 128 * (S * 128)) x y i k) + (cnt k fun k => ind X Y (S * 128 * (S * 128)) x y i k) + 1), DV.i ((k : Int) + 1)] = [DV.i ((cnt i fun i => cnt 8 fun k => ind X Y (S * 128 * (S * 128)) x y i k) + ((cnt k fun k => ind X Y (S * 128 * (S * 128)) x y i k) + ind X Y (S * 128 * (S * 128)) x y i k)), DV.i ((k + 1 : Nat) : Int)]
            rw [e, Int.add_assoc]; rfl
          · show (8 - ((k : Int) + 1)).toNat < (8 - (k : Int)).toNat
            omega
        · have g : decide ((256 * x + 32 * (i : Int) + 16 - X) * (256 * x + 32 * (i : Int) + 16 - X) + (256 * y + 32 * (k : Int) + 16 - Y) * (256 * y + 32 * (k : Int) + 16 - Y) < 128 * S * 128 * S) = false := g
          rw [decide_eq_false_iff_not, qe] at g
          have e : ind X Y (S * 128 * (S * 128)) x y i k = 0 := by unfold ind; rw [if_neg g]
          refine h_needR ((k : Int) + 1) rfl (by omega) (h_again ⟨⟨k + 1, ?_, by omega⟩, ?_⟩)
          · show [DV.i ((cnt i fun i => cnt 8 fun k => ind X Y (S * 128 * (S * 128)) x y i k) + (cnt k fun k => ind X Y (S * 128 * (S * 128)) x y i k)), DV.i ((k : Int) + 1)] = [DV.i ((cnt i fun i => cnt 8 fun k => ind X Y (S * 128 * (S * 128)) x y i k) + ((cnt k fun k => ind X Y (S * 128 * (S * 128)) x y i k) + ind X Y (S * 128 * (S * 128)) x y i k)), DV.i ((k + 1 : Nat) : Int)]
            rw [e, Int.add_zero]; rfl
          · show (8 - ((k : Int) + 1)).toNat < (8 - (k : Int)).toNat
            omega
      · have hc2 : decide ((k : Int) < 8) = false := hc2
        simp only [Env.sets, Env.set, BE.den, IE.den, DE.den, DV.int, DV.bool, DV.list, LOp.den, List.map_cons, List.map_nil, Nat.reduceEqDiff, ↓reduceIte, reduceCtorEq, Bool.and_eq_true, Bool.or_eq_true, Bool.not_eq_true', Bool.not_eq_false', Bool.and_eq_false_iff, Bool.or_eq_false_iff, decide_eq_true_eq, decide_eq_false_iff_not] at hc2
        have : k = 8 := by omega
        subst this
        refine h_needR ((i : Int) + 1) rfl (by omega) (h_again2 rfl ⟨⟨i + 1, rfl, by omega⟩, ?_⟩)
        show (8 - ((i : Int) + 1)).toNat < (8 - (i : Int)).toNat
        omega
    · have hc : decide ((i : Int) < 8) = false := hc
      simp only [Env.sets, Env.set, BE.den, IE.den, DE.den, DV.int, DV.bool, DV.list, LOp.den, List.map_cons, List.map_nil, Nat.reduceEqDiff, ↓reduceIte, reduceCtorEq, Bool.and_eq_true, Bool.or_eq_true, Bool.not_eq_true', Bool.not_eq_false', Bool.and_eq_false_iff, Bool.or_eq_false_iff, decide_eq_true_eq, decide_eq_false_iff_not] at hc
      have : i = 8 := by omega
      subst this
      rfl
  · cases hp
/-! ### Fragments -/
def colI (K u S c x : Int) : Int := if K = 2 then min (max ((x * 256 + 128 - u + S * 128) / S) 0) 255 else c
def fragL (X Y Z p q r s S K x y c : Int) : List Int := [x, y, Z, colI K X S p x, colI K Y S q y, r, s, c]
def keep (l : List Int) : List (List Int) := if 0 < l.getD 7 0 then [l] else []
def rngN (a : Int) (n : Nat) : List Int := (List.range n).map fun (k : Nat) => a + (k : Int)
def rowN (g : Int → Int → List Int) (a : Int) (w : Nat) (y : Int) : List (List Int) := (rngN a w).flatMap fun x => keep (g x y)
def allN (g : Int → Int → List Int) (a : Int) (w : Nat) (b : Int) (n : Nat) : List (List Int) := (rngN b n).flatMap fun y => rowN g a w y
def allL (g : Int → Int → List Int) (a b c d : Int) : List (List Int) := allN g a (c - a).toNat b (d - b).toNat
theorem rngN_succ {a : Int} {n : Nat} : rngN a (n + 1) = rngN a n ++ [a + (n : Int)] := by simp [rngN, List.range_succ]
theorem rowN_succ {g : Int → Int → List Int} {a y : Int} {n : Nat} : rowN g a (n + 1) y = rowN g a n y ++ keep (g (a + (n : Int)) y) := by simp [rowN, rngN_succ, List.flatMap_append]
theorem allN_succ {g : Int → Int → List Int} {a b : Int} {w n : Nat} : allN g a w b (n + 1) = allN g a w b n ++ rowN g a w (b + (n : Int)) := by simp [allN, rngN_succ, List.flatMap_append]
theorem keep_len {l : List Int} : (keep l).length ≤ 1 := by unfold keep; split <;> simp
theorem rowN_len {g : Int → Int → List Int} {a y : Int} {n : Nat} : (rowN g a n y).length ≤ n := by
  induction n with
  | zero => simp [rowN, rngN]
  | succ n ih =>
    rw [rowN_succ, List.length_append]
    have := keep_len (l := g (a + (n : Int)) y)
    omega
theorem allN_len {g : Int → Int → List Int} {a b : Int} {w n : Nat} : (allN g a w b n).length ≤ n * w := by
  induction n with
  | zero => simp [allN, rngN]
  | succ n ih =>
    rw [allN_succ, List.length_append, Nat.succ_mul]
    have := rowN_len (g := g) (a := a) (y := b + (n : Int)) (n := w)
    omega
def c28 : Contract := CFn sg28 (fun | [.i x, .i y, .l [[X], [Y], [Z], [p], [q], [r], [s]], .l [[K]], .l [[S]]] => mayP X Y Z p q r s ∧ (1 ≤ S ∧ S ≤ 64) ∧ nearP x y | _ => False) (fun | [.i x, .i y, .l [[X], [Y], [Z], [p], [q], [r], [s]], .l [[K]], .l [[S]]] => (fragL X Y Z p q r s S K x y 64).map DV.i | _ => [])
def c35 : Contract := CFn sg35 (fun | [.i x, .i y, .l [[X], [Y], [Z], [p], [q], [r], [s]], .l [[far]]] => mayP X Y Z p q r s ∧ (0 ≤ far ∧ far ≤ 8192) ∧ nearP x y | _ => False) (fun | [.i x, .i y, .l [[X], [Y], [Z], [p], [q], [r], [s]], .l [[far]]] => (fragL X Y Z p q r s 1 0 x y (cov X Y (far * far) x y)).map DV.i | _ => [])
def c31 : Contract := CFn sg31 (fun | [.i m, .i u, .i S] => (-1073742000 ≤ m ∧ m ≤ 1073742000) ∧ (-268435456 ≤ u ∧ u ≤ 268435456) ∧ 1 ≤ S ∧ S ≤ 64 | _ => False) (fun | [.i m, .i u, .i S] => [.i (min (max ((m - u + S * 128) / S) 0) 255)] | _ => [])
theorem ok31 : ContractOk Try.prog 31 c31 := by
  refine contract_of (Γ := knownOf [(34, cFloor sg34)]) (known_cons ok34 rfl known_nil) Try.func31 rfl rfl is31 fun ds hk hp => ?_
  split at hp
  · skip
    rename_i m u S
    obtain ⟨⟨m1, m2⟩, ⟨u1, u2⟩, s1, s2⟩ := hp
    iterate 3 refine h_need (by simp only [Env.sets, Env.set, BE.den, IE.den, DE.den, DV.int, DV.bool, DV.list, LOp.den, List.map_cons, List.map_nil, Nat.reduceEqDiff, ↓reduceIte, reduceCtorEq, Bool.and_eq_true, Bool.or_eq_true, Bool.not_eq_true', Bool.not_eq_false', Bool.and_eq_false_iff, Bool.or_eq_false_iff, decide_eq_true_eq, decide_eq_false_iff_not]; omega) ?_
    refine h_call (c := cFloor sg34) rfl (show 0 < S ∧ bigP (m - (u - 128 * S)) by unfold bigP; omega) fun rs hk hr => ?_
    have hr : rs = [.i ((m - (u - 128 * S)) / S)] := hr
    subst hr
    refine retI ?_
    show min (max ((m - u + S * 128) / S) 0) 255 = max 0 (min ((m - (u - 128 * S)) / S) 255)
    rw [show m - (u - 128 * S) = m - u + S * 128 by omega]
    omega
  · cases hp
theorem ok28 : ContractOk Try.prog 28 c28 := by
  refine contract_of (Γ := knownOf [(29, cFloor sg29)]) (known_cons ok29 rfl known_nil) Try.func28 rfl rfl is28 fun ds hk hp => ?_
  split at hp
  · skip
    rename_i x y X Y Z p q r s K S
    obtain ⟨⟨hc, ⟨x1, x2⟩, ⟨y1, y2⟩, hz⟩, ⟨s1, s2⟩, ⟨x3, x4⟩, y3, y4⟩ := hp
    iterate 4 refine h_need rfl ?_
    refine h_ite (fun g => ?_) (fun g => ?_)
    · have g : decide (K = 2) = true := g
      rw [decide_eq_true_eq] at g
      subst g
      refine h_needR (x * 256) rfl (by omega) ?_
      refine h_needR (x * 256 + 128) rfl (by omega) ?_
      refine h_needR (x * 256 + 128 - X) rfl (by omega) ?_
      refine h_need rfl ?_
      refine h_needR (S * 128) rfl (by omega) ?_
      refine h_needR (x * 256 + 128 - X + S * 128) rfl (by omega) ?_
      refine h_call (c := cFloor sg29) rfl (show 0 < S ∧ bigP (x * 256 + 128 - X + S * 128) by unfold bigP; omega) fun rs hk hr => ?_
      have hr : rs = [.i ((x * 256 + 128 - X + S * 128) / S)] := hr
      subst hr
      refine h_needR (y * 256) rfl (by omega) ?_
      refine h_needR (y * 256 + 128) rfl (by omega) ?_
      iterate 2 refine h_need rfl ?_
      refine h_needR (y * 256 + 128 - Y) rfl (by omega) ?_
      refine h_need rfl ?_
      refine h_needR (S * 128) rfl (by omega) ?_
      refine h_needR (y * 256 + 128 - Y + S * 128) rfl (by omega) ?_
      refine h_call (c := cFloor sg29) rfl (show 0 < S ∧ bigP (y * 256 + 128 - Y + S * 128) by unfold bigP; omega) fun rs hk hr => ?_
      have hr : rs = [.i ((y * 256 + 128 - Y + S * 128) / S)] := hr
      subst hr
      rfl
    · have g : decide (K = 2) = false := g
      rw [decide_eq_false_iff_not] at g
      show _ = (fragL X Y Z p q r s S K x y 64).map DV.i
      unfold fragL colI
      rw [if_neg g, if_neg g]
      rfl
  · cases hp
theorem ok35 : ContractOk Try.prog 35 c35 := by
  refine contract_of (Γ := knownOf [(36, c36)]) (known_cons ok36 rfl known_nil) Try.func35 rfl rfl is35 fun ds hk hp => ?_
  split at hp
  · skip
    rename_i x y X Y Z p q r s far
    obtain ⟨⟨hc, ⟨x1, x2⟩, ⟨y1, y2⟩, hz⟩, ⟨s1, s2⟩, hn⟩ := hp
    have hq := mul_bd (a := far) (b := far) (A := 8192) (B := 8192) (by omega) (by omega) (by omega) (by omega)
    have hq0 := Int.mul_nonneg s1 s1
    iterate 4 refine h_need rfl ?_
    refine h_needR (far * far) rfl (by omega) ?_
    refine h_call (c := c36) rfl (show midP X Y ∧ nearP x y ∧ 0 ≤ far * far ∧ far * far ≤ 1000000000000 from ⟨⟨⟨x1, x2⟩, y1, y2⟩, hn, hq0, by omega⟩) fun rs hk hr => ?_
    have hr : rs = [.i (cov X Y (far * far) x y)] := hr
    subst hr
    rfl
  · cases hp
end Go.Proofs.Ytkoacdplkanhhaa.Fns
