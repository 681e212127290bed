/- Layer 19: the program's fragments are the document's: the plain law. -/
import Derived.Test.YtkoacdplkanhhaaFns5
set_option linter.unusedVariables false
set_option linter.unusedSimpArgs false
set_option maxRecDepth 10000
namespace Go.Proofs.Ytkoacdplkanhhaa.Fns
open Go.Sx Go.Proofs.Ytkoacdplkanhhaa.Trees

def rng (a c : Int) : List Int := rngN a (c - a).toNat
theorem mem_rngN {a x : Int} {n : Nat} : x ∈ rngN a n ↔ a ≤ x ∧ x < a + n := by
  simp only [rngN, List.mem_map, List.mem_range]
  constructor
  · rintro ⟨k, hk, rfl⟩; omega
  · rintro ⟨h1, h2⟩; exact ⟨(x - a).toNat, by omega, by omega⟩
theorem mem_rng {a c x : Int} : x ∈ rng a c ↔ a ≤ x ∧ x < c := by
  rw [rng, mem_rngN]; omega
theorem rngN_add {a : Int} {n m : Nat} : rngN a (n + m) = rngN a n ++ rngN (a + n) m := by
  induction m with
  | zero => simp [rngN]
  | succ m ih => rw [← Nat.add_assoc, rngN_succ, rngN_succ, ih, List.append_assoc]; congr 3; omega
theorem rng_split {a m c : Int} (h1 : a ≤ m) (h2 : m ≤ c) : rng a c = rng a m ++ rng m c := by
  unfold rng
  rw [show (c - a).toNat = (m - a).toNat + (c - m).toNat by omega, rngN_add, show a + ((m - a).toNat : Int) = m by omega]
theorem rng_nil {a c : Int} (h : c ≤ a) : rng a c = [] := by
  unfold rng
  rw [show (c - a).toNat = 0 by omega]; rfl
theorem fm_nil {α : Type} {f : Int → List α} {a c : Int} (h : ∀ x, a ≤ x → x < c → f x = []) : (rng a c).flatMap f = [] := by
  rw [List.flatMap_eq_nil_iff]
  intro x hx
  rw [mem_rng] at hx
  exact h x hx.1 hx.2
theorem fm_congr {α : Type} {f g : Int → List α} {l : List Int} (h : ∀ x ∈ l, f x = g x) : l.flatMap f = l.flatMap g := by
  induction l with
  | nil => rfl
  | cons y l ih =>
    rw [List.flatMap_cons, List.flatMap_cons, h y (List.mem_cons_self ..), ih fun x hx => h x (List.mem_cons_of_mem _ hx)]
theorem fm_cut {α : Type} {f : Int → List α} {a c a' c' : Int} (h : ∀ x, a ≤ x → x < c → ¬ (a' ≤ x ∧ x < c') → f x = []) : (rng a c).flatMap f = (rng (max a' a) (min c' c)).flatMap f := by
  rcases Int.lt_or_le (max a' a) (min c' c) with hlt | hge
  · rw [rng_split (a := a) (m := max a' a) (c := c) (by omega) (by omega), rng_split (a := max a' a) (m := min c' c) (c := c) (by omega) (by omega), List.flatMap_append, List.flatMap_append]
    rw [fm_nil (a := a) (c := max a' a) fun x h1 h2 => h x h1 (by omega) (by omega), fm_nil (a := min c' c) (c := c) fun x h1 h2 => h x (by omega) h2 (by omega)]
    simp
  · rw [rng_nil hge, fm_nil fun x h1 h2 => h x h1 h2 (by omega)]
    rfl
theorem allL_eq {g : Int → Int → List Int} {a b c d : Int} : allL g a b c d = (rng b d).flatMap fun y => (rng a c).flatMap fun x => keep (g x y) := rfl
theorem all_cut {g : Int → Int → List Int} {a b c d a' b' c' d' : Int} (h : ∀ x y, (a ≤ x ∧ x < c) → (b ≤ y ∧ y < d) → ¬ ((a' ≤ x ∧ x < c') ∧ (b' ≤ y ∧ y < d')) → keep (g x y) = []) :
    allL g a b c d = allL g (max a' a) (max b' b) (min c' c) (min d' d) := by
  rw [allL_eq, allL_eq, fm_cut (a' := b') (c' := d') fun y h1 h2 h3 => fm_nil fun x h4 h5 => h x y ⟨h4, h5⟩ ⟨h1, h2⟩ (fun h6 => h3 h6.2)]
  refine fm_congr fun y hy => ?_
  rw [mem_rng] at hy
  exact fm_cut fun x h1 h2 h3 => h x y ⟨h1, h2⟩ ⟨by omega, by omega⟩ (fun h6 => h3 h6.1)
theorem all_congr {g g' : Int → Int → List Int} {a b c d : Int} (h : ∀ x y, (a ≤ x ∧ x < c) → (b ≤ y ∧ y < d) → g x y = g' x y) : allL g a b c d = allL g' a b c d := by
  rw [allL_eq, allL_eq]
  refine fm_congr fun y hy => fm_congr fun x hx => ?_
  rw [mem_rng] at hy hx
  rw [h x y hx hy]
theorem all_empty {g : Int → Int → List Int} {a b c d : Int} (h : c ≤ a ∨ d ≤ b) : allL g a b c d = [] := by
  rw [allL_eq]
  exact fm_nil fun y h1 h2 => fm_nil fun x h3 h4 => by omega
theorem allT_and {g : Int → Int → List Int} {A B C D a b c d : Int} (h1 : rightP A B C D) (h2 : rightP a b c d) : allT g (andX A B C D a b c d) = allL g (max A a) (max B b) (min C c) (min D d) := by
  unfold andX
  split
  · rfl
  · rename_i h
    have hn : ¬ rightP (max A a) (max B b) (min C c) (min D d) := fun h3 => h (by unfold andOk rightB; rw [decide_eq_true h1, decide_eq_true h2, decide_eq_true h3]; rfl)
    rw [all_empty (show min C c ≤ max A a ∨ min D d ≤ max B b by unfold rightP at *; omega)]
    exact all_empty (.inl (by simp))
/-! ### Out of reach there is nothing -/
theorem sq_far {P F : Int} (hF : 0 ≤ F) (h : F ≤ P ∨ P ≤ -F) : F * F ≤ P * P := by
  rcases h with h | h
  · have := Int.mul_nonneg (show 0 ≤ P - F by omega) (show 0 ≤ P + F by omega)
    grind
  · have := Int.mul_nonneg (show 0 ≤ -F - P by omega) (show 0 ≤ F - P by omega)
    grind
theorem sq_pos {P : Int} : 0 ≤ P * P := by
  rcases Int.le_total 0 P with h | h
  · exact Int.mul_nonneg h h
  · exact Int.mul_nonneg_of_nonpos_of_nonpos h h
theorem cov_out {X Y F x y : Int} (hF : 0 ≤ F) (h : ¬ (((X - F) / 256 - 1 ≤ x ∧ x < (X + F) / 256 + 2) ∧ ((Y - F) / 256 - 1 ≤ y ∧ y < (Y + F) / 256 + 2))) : cov X Y (F * F) x y = 0 := by
  unfold cov
  rw [cnt_congr (g := fun _ => 0) fun i hi => ?_, cnt_zero]
  rw [cnt_congr (g := fun _ => 0) fun k hk => ?_, cnt_zero]
  unfold ind
  rw [if_neg]
  have p1 := sq_pos (P := 256 * x + 32 * i + 16 - X)
  have p2 := sq_pos (P := 256 * y + 32 * k + 16 - Y)
  by_cases hx : (X - F) / 256 - 1 ≤ x ∧ x < (X + F) / 256 + 2
  · have := sq_far (P := 256 * y + 32 * k + 16 - Y) hF (by omega)
    omega
  · have := sq_far (P := 256 * x + 32 * i + 16 - X) hF (by omega)
    omega
theorem gR_1 {X Y Z p q r s S : Int} : gR X Y Z p q r s S 1 = g1 X Y Z p q r s S := by
  funext x y
  unfold gR g1 fragL
  rw [if_pos rfl]
  rfl
theorem point_ref (X Y Z p q r s S K a b c d : Int) : pointL X Y Z p q r s S K a b c d = refL X Y Z p q r s S K a b c d := by
  unfold pointL refL
  by_cases h : rightD X Y Z p q r s S K ∧ rightB a b c d = true
  · rw [if_pos h, if_pos h]
    obtain ⟨⟨⟨⟨_, ⟨x1, x2⟩, ⟨y1, y2⟩, _⟩, s1, s2⟩, k1, k2⟩, hB⟩ := id h
    have hB : rightP a b c d := of_decide_eq_true hB
    by_cases hK : K = 1
    · subst hK
      rw [if_pos rfl, gR_1]
      unfold nearT
      rw [allT_and (by unfold rightP; omega) hB]
      symm
      refine all_cut fun x y hx hy hn => keep_no ?_
      have := cov_out (X := X) (Y := Y) (F := S * 128) (x := x) (y := y) (by omega) (by simpa using hn)
      show ¬ 0 < cov X Y (S * 128 * (S * 128)) x y
      omega
    · rw [if_neg hK]
      have hbox : rightP (firstI X S) (firstI Y S) (firstI X S + S) (firstI Y S + S) := by unfold rightP firstI; omega
      have hhas : ∀ x y, hasBox X Y S x y = true ↔ ((firstI X S ≤ x ∧ x < firstI X S + S) ∧ (firstI Y S ≤ y ∧ y < firstI Y S + S)) := fun x y => by
        unfold hasBox hasB rightB
        rw [decide_eq_true hbox]
        simp only [Bool.true_and, Bool.and_eq_true, decide_eq_true_eq]
        constructor
        · rintro ⟨⟨⟨h1, h2⟩, h3⟩, h4⟩; exact ⟨⟨h1, h2⟩, h3, h4⟩
        · rintro ⟨⟨h1, h2⟩, h3, h4⟩; exact ⟨⟨⟨h1, h2⟩, h3⟩, h4⟩
      unfold boxT
      rw [allT_and hbox hB]
      rw [all_cut (g := gR X Y Z p q r s S K) (a' := firstI X S) (b' := firstI Y S) (c' := firstI X S + S) (d' := firstI Y S + S) fun x y hx hy hn => keep_no ?_]
      · refine all_congr fun x y hx hy => ?_
        unfold g0 gR
        rw [if_neg hK, if_pos ((hhas x y).2 ⟨by omega, by omega⟩)]
      · unfold gR fragL
        rw [if_neg hK, if_neg (fun h => hn ((hhas x y).1 h))]
        simp
  · rw [if_neg h, if_neg h]
theorem all_len {g : Int → Int → List Int} {a b c d : Int} : (allL g a b c d).length ≤ (d - b).toNat * (c - a).toNat := allN_len
end Go.Proofs.Ytkoacdplkanhhaa.Fns
