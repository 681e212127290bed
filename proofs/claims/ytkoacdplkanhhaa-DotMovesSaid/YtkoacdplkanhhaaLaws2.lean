/- Layer 19: the law DotCounts, as a function. -/
import Derived.Test.YtkoacdplkanhhaaLaws
import Derived.Test.YtkoacdplkanhhaaPlain2
set_option linter.unusedVariables false
set_option linter.unusedSimpArgs false
set_option maxRecDepth 10000
namespace Go.Proofs.Ytkoacdplkanhhaa.Fns
open Go.Sx Go.Proofs.Ytkoacdplkanhhaa.Trees

theorem whole_right {X Y Z p q r s S : Int} (h : sizeP X Y Z p q r s S) : rightP (X.tdiv 256 - S - 2) (Y.tdiv 256 - S - 2) (X.tdiv 256 + S + 3) (Y.tdiv 256 + S + 3) := by
  obtain ⟨⟨_, ⟨x1, x2⟩, ⟨y1, y2⟩, _⟩, s1, s2⟩ := h
  have fx := floor_spec (n := X) (d := 256) (by omega)
  have fy := floor_spec (n := Y) (d := 256) (by omega)
  unfold rightP
  rcases Int.lt_or_le (X.tmod 256) 0 with a | a <;> rcases Int.lt_or_le (Y.tmod 256) 0 with b | b
  · have := fx.1 a; have := fy.1 b; omega
  · have := fx.1 a; have := fy.2 b; omega
  · have := fx.2 a; have := fy.1 b; omega
  · have := fx.2 a; have := fy.2 b; omega
theorem tdiv_near (n : Int) : n / 256 ≤ n.tdiv 256 ∧ n.tdiv 256 ≤ n / 256 + 1 := by
  have fx := floor_spec (n := n) (d := 256) (by omega)
  rcases Int.lt_or_le (n.tmod 256) 0 with a | a
  · have := fx.1 a; omega
  · have := fx.2 a; omega
/-- A square point, and a sprite, in whole. -/
def bx (u S : Int) : Int := firstI u S
theorem square_whole {X Y Z p q r s S K : Int} (h : sizeP X Y Z p q r s S) (hK : K = 0 ∨ K = 2) : pointL X Y Z p q r s S K (X.tdiv 256 - S - 2) (Y.tdiv 256 - S - 2) (X.tdiv 256 + S + 3) (Y.tdiv 256 + S + 3) = gridN (g0 X Y Z p q r s S K) (firstI X S) S.toNat (firstI Y S) S.toNat := by
  have hw := whole_right h
  obtain ⟨⟨_, ⟨x1, x2⟩, ⟨y1, y2⟩, _⟩, s1, s2⟩ := id h
  have tx := tdiv_near X
  have ty := tdiv_near Y
  unfold pointL
  rw [if_pos ⟨⟨h, by omega⟩, decide_eq_true hw⟩, if_neg (by omega)]
  unfold boxT
  have hbox : rightP (firstI X S) (firstI Y S) (firstI X S + S) (firstI Y S + S) := by unfold rightP firstI; omega
  rw [allT_and hbox hw]
  have e1 : max (firstI X S) (X.tdiv 256 - S - 2) = firstI X S := by unfold firstI; omega
  have e2 : max (firstI Y S) (Y.tdiv 256 - S - 2) = firstI Y S := by unfold firstI; omega
  have e3 : min (firstI X S + S) (X.tdiv 256 + S + 3) = firstI X S + S := by unfold firstI; omega
  have e4 : min (firstI Y S + S) (Y.tdiv 256 + S + 3) = firstI Y S + S := by unfold firstI; omega
  rw [e1, e2, e3, e4, all_grid (g := g0 X Y Z p q r s S K) (fun x y _ _ => show 0 < (g0 X Y Z p q r s S K x y).getD 7 0 from (show (0 : Int) < 64 by omega)), show firstI X S + S - firstI X S = S by omega, show firstI Y S + S - firstI Y S = S by omega]
theorem near1 {X S x : Int} (s1 : 1 ≤ S) (h1 : (X - S * 128 - 240) / 256 + 1 ≤ x) (h2 : x < (X + S * 128 - 17) / 256 + 1) : firstI X S - 2 ≤ x ∧ x < firstI X S + S + 2 := by
  unfold firstI
  rcases (show S % 2 = 0 ∨ S % 2 = 1 by omega) with e | e
  · have : (S + 1) % 2 = 1 := by omega
    rw [this]
    obtain ⟨k, rfl⟩ : ∃ k, S = 2 * k := ⟨S / 2, by omega⟩
    clear e this s1
    omega
  · have : (S + 1) % 2 = 0 := by omega
    rw [this]
    obtain ⟨k, rfl⟩ : ∃ k, S = 2 * k + 1 := ⟨S / 2, by omega⟩
    clear e this s1
    omega
theorem near2 {X S : Int} (s1 : 1 ≤ S) : (X + S * 128 - 17) / 256 + 1 - ((X - S * 128 - 240) / 256 + 1) ≤ S + 2 := by omega
theorem near3 {a b c d : Int} {n : Nat} (h : c - a ≤ n) : (min c d - max a b).toNat ≤ n := by omega
theorem near4 {X T S : Int} (t1 : X / 256 ≤ T) (t2 : T ≤ X / 256 + 1) (s1 : 1 ≤ S) : T - S - 2 ≤ X / 256 ∧ X / 256 < T + S + 3 := by omega
theorem round_whole {X Y Z p q r s S : Int} (h : sizeP X Y Z p q r s S) : (∀ row ∈ pointL X Y Z p q r s S 1 (X.tdiv 256 - S - 2) (Y.tdiv 256 - S - 2) (X.tdiv 256 + S + 3) (Y.tdiv 256 + S + 3), ∃ x y, ((firstI X S - 2 ≤ x ∧ x < firstI X S + S + 2) ∧ (firstI Y S - 2 ≤ y ∧ y < firstI Y S + S + 2)) ∧ row = g1 X Y Z p q r s S x y ∧ 0 < cov X Y (S * 128 * (S * 128)) x y)
    ∧ (pointL X Y Z p q r s S 1 (X.tdiv 256 - S - 2) (Y.tdiv 256 - S - 2) (X.tdiv 256 + S + 3) (Y.tdiv 256 + S + 3)).length ≠ 0 ∧ (((pointL X Y Z p q r s S 1 (X.tdiv 256 - S - 2) (Y.tdiv 256 - S - 2) (X.tdiv 256 + S + 3) (Y.tdiv 256 + S + 3)).length : Nat) : Int) ≤ (S + 2) * (S + 2) := by
  have hw := whole_right h
  obtain ⟨⟨_, ⟨x1, x2⟩, ⟨y1, y2⟩, _⟩, s1, s2⟩ := id h
  have tx := tdiv_near X
  have ty := tdiv_near Y
  have hP : pointL X Y Z p q r s S 1 (X.tdiv 256 - S - 2) (Y.tdiv 256 - S - 2) (X.tdiv 256 + S + 3) (Y.tdiv 256 + S + 3) = allL (g1 X Y Z p q r s S) (X.tdiv 256 - S - 2) (Y.tdiv 256 - S - 2) (X.tdiv 256 + S + 3) (Y.tdiv 256 + S + 3) := by
    rw [point_ref]
    unfold refL
    rw [if_pos ⟨⟨h, by omega⟩, decide_eq_true hw⟩, gR_1]
  rw [hP]
  refine ⟨fun row hrow => ?_, fun h0 => ?_, ?_⟩
  · obtain ⟨x, y, hx, hy, he, hc⟩ := mem_all.1 hrow
    have hc : 0 < cov X Y (S * 128 * (S * 128)) x y := hc
    refine ⟨x, y, ?_, he, hc⟩
    have := fun hn => cov_out2 (X := X) (Y := Y) (F := S * 128) (x := x) (y := y) (by omega) hn
    by_cases hn : ((X - S * 128 - 240) / 256 + 1 ≤ x ∧ x < (X + S * 128 - 17) / 256 + 1) ∧ ((Y - S * 128 - 240) / 256 + 1 ≤ y ∧ y < (Y + S * 128 - 17) / 256 + 1)
    · exact ⟨near1 s1 hn.1.1 hn.1.2, near1 s1 hn.2.1 hn.2.2⟩
    · have := this hn; rw [this] at hc; exact absurd hc (by decide)
  · have hm := mem_all (g := g1 X Y Z p q r s S) (a := (X.tdiv 256 - S - 2)) (b := (Y.tdiv 256 - S - 2)) (c := (X.tdiv 256 + S + 3)) (d := (Y.tdiv 256 + S + 3)) (row := g1 X Y Z p q r s S (X / 256) (Y / 256)).2 ⟨X / 256, Y / 256, near4 tx.1 tx.2 s1, near4 ty.1 ty.2 s1, rfl, cov_mid (X := X) (Y := Y) (F := S * 128) (show 128 ≤ S * 128 by omega)⟩
    rw [List.length_eq_zero_iff] at h0
    rw [h0] at hm
    simp at hm
  · rw [all_cut (g := g1 X Y Z p q r s S) (a' := (X - S * 128 - 240) / 256 + 1) (b' := (Y - S * 128 - 240) / 256 + 1) (c' := (X + S * 128 - 17) / 256 + 1) (d' := (Y + S * 128 - 17) / 256 + 1) fun x y hx hy hn => keep_no (by
      have := cov_out2 (X := X) (Y := Y) (F := S * 128) (x := x) (y := y) (by omega) hn
      show ¬ 0 < cov X Y (S * 128 * (S * 128)) x y
      omega)]
    have hl := all_len (g := g1 X Y Z p q r s S) (a := max ((X - S * 128 - 240) / 256 + 1) (X.tdiv 256 - S - 2)) (b := max ((Y - S * 128 - 240) / 256 + 1) (Y.tdiv 256 - S - 2)) (c := min ((X + S * 128 - 17) / 256 + 1) (X.tdiv 256 + S + 3)) (d := min ((Y + S * 128 - 17) / 256 + 1) (Y.tdiv 256 + S + 3))
    obtain ⟨n, hn⟩ : ∃ n : Nat, (n : Int) = S + 2 := ⟨(S + 2).toNat, by omega⟩
    have e1 := near2 (X := X) s1
    have e2 := near2 (X := Y) s1
    rw [← hn] at e1 e2
    have h1 := near3 (b := X.tdiv 256 - S - 2) (d := X.tdiv 256 + S + 3) e1
    have h2 := near3 (b := Y.tdiv 256 - S - 2) (d := Y.tdiv 256 + S + 3) e2
    have h3 := Nat.le_trans hl (Nat.mul_le_mul h2 h1)
    rw [← hn, ← Int.natCast_mul]
    exact Int.ofNat_le.2 h3
end Go.Proofs.Ytkoacdplkanhhaa.Fns
