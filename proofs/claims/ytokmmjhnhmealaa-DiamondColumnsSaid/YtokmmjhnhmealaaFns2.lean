/- Layer 13: what each function does, more. -/
import Derived.Test.YtokmmjhnhmealaaFns
set_option linter.unusedVariables false
set_option linter.unusedSimpArgs false
set_option maxRecDepth 10000
namespace Go.Proofs.Ytokmmjhnhmealaa.Fns
open Go.Sx Go.Proofs.Ytokmmjhnhmealaa.Trees Go.Proofs.Ytokmmjhnhmealaa.Plain

theorem i_of {a b : Int} (h : [DV.i a] = [DV.i b]) : a = b := by simpa using h
theorem b_of {a b : Bool} (h : [DV.b a] = [DV.b b]) : a = b := by simpa using h
theorem s1 {n : Int} : (sign3 n (-1) (-1) < 0 ↔ n ≤ 0) ∧ (0 < sign3 n (-1) (-1) ↔ 0 < n) := by unfold sign3; grind
theorem s2 {n : Int} : (sign3 n (-1) 1 < 0 ↔ n ≤ 0) ∧ (0 < sign3 n (-1) 1 ↔ 0 < n) := by unfold sign3; grind
theorem ok17 : ContractOk Try.prog 17 c17 := by
  refine contract_of (Γ := knownOf [(21, c21)]) (known_cons ok21 rfl known_nil) Try.func17 rfl rfl is17 fun ds hk hp => ?_
  split at hp
  · skip
    rename_i px py x y
    unfold mayP nearP at hp
    iterate 8 refine h_need (by simp only [Env.sets, Env.set, BE.den, IE.den, DE.den, DV.int, DV.bool, DV.list, LOp.den, List.map_cons, List.map_nil, Nat.reduceEqDiff, ↓reduceIte, reduceCtorEq, Bool.and_eq_true, Bool.or_eq_true, Bool.not_eq_true', Bool.not_eq_false', Bool.and_eq_false_iff, Bool.or_eq_false_iff, decide_eq_true_eq, decide_eq_false_iff_not]; omega) ?_
    refine h_call (c := c21) rfl trivial fun rs hk hr => ?_
    have hr : rs = [.i (sign3 (px - 256*x - 128 + (py - 256*y - 128) - 128) (-1) (-1))] := hr
    subst hr
    obtain ⟨t1, ht1⟩ : ∃ t, sign3 (px - 256*x - 128 + (py - 256*y - 128) - 128) (-1) (-1) = t := ⟨_, rfl⟩
    rw [ht1]
    iterate 2 refine h_need (by simp only [Env.sets, Env.set, BE.den, IE.den, DE.den, DV.int, DV.bool, DV.list, LOp.den, List.map_cons, List.map_nil, Nat.reduceEqDiff, ↓reduceIte, reduceCtorEq, Bool.and_eq_true, Bool.or_eq_true, Bool.not_eq_true', Bool.not_eq_false', Bool.and_eq_false_iff, Bool.or_eq_false_iff, decide_eq_true_eq, decide_eq_false_iff_not]; omega) ?_
    refine h_callg (c := c21) rfl (fun _ => trivial) fun rs hk hr2 => ?_
    obtain ⟨t2, rfl⟩ := kinds1i hk
    have hr2 : decide (t1 < 0) = true → [DV.i t2] = [DV.i (sign3 (px - 256*x - 128 + (py - 256*y - 128) + 128) (-1) (-1))] := hr2
    iterate 2 refine h_need (by simp only [Env.sets, Env.set, BE.den, IE.den, DE.den, DV.int, DV.bool, DV.list, LOp.den, List.map_cons, List.map_nil, Nat.reduceEqDiff, ↓reduceIte, reduceCtorEq, Bool.and_eq_true, Bool.or_eq_true, Bool.not_eq_true', Bool.not_eq_false', Bool.and_eq_false_iff, Bool.or_eq_false_iff, decide_eq_true_eq, decide_eq_false_iff_not]; omega) ?_
    refine h_callg (c := c21) rfl (fun _ => trivial) fun rs hk hr3 => ?_
    obtain ⟨t3, rfl⟩ := kinds1i hk
    have hr3 : (decide (t1 < 0) && decide (0 < t2)) = true → [DV.i t3] = [DV.i (sign3 (px - 256*x - 128 - (py - 256*y - 128) - 128) (-1) 1)] := hr3
    iterate 2 refine h_need (by simp only [Env.sets, Env.set, BE.den, IE.den, DE.den, DV.int, DV.bool, DV.list, LOp.den, List.map_cons, List.map_nil, Nat.reduceEqDiff, ↓reduceIte, reduceCtorEq, Bool.and_eq_true, Bool.or_eq_true, Bool.not_eq_true', Bool.not_eq_false', Bool.and_eq_false_iff, Bool.or_eq_false_iff, decide_eq_true_eq, decide_eq_false_iff_not]; omega) ?_
    refine h_callg (c := c21) rfl (fun _ => trivial) fun rs hk hr4 => ?_
    obtain ⟨t4, rfl⟩ := kinds1i hk
    have hr4 : ((decide (t1 < 0) && decide (0 < t2)) && decide (t3 < 0)) = true → [DV.i t4] = [DV.i (sign3 (px - 256*x - 128 - (py - 256*y - 128) + 128) (-1) 1)] := hr4
    refine retB (X := ((decide (t1 < 0) && decide (0 < t2)) && decide (t3 < 0)) && decide (0 < t4)) (P := inP px py x y) ?_
    unfold inP InD
    simp only [Bool.and_eq_true, decide_eq_true_eq] at *
    have a1 := s1 (n := px - 256*x - 128 + (py - 256*y - 128) - 128)
    have a2 := s1 (n := px - 256*x - 128 + (py - 256*y - 128) + 128)
    have a3 := s2 (n := px - 256*x - 128 - (py - 256*y - 128) - 128)
    have a4 := s2 (n := px - 256*x - 128 - (py - 256*y - 128) + 128)
    rw [ht1] at a1
    constructor
    · rintro ⟨⟨⟨k1, k2⟩, k3⟩, k4⟩
      rw [i_of (hr2 k1)] at k2
      rw [i_of (hr3 ⟨k1, by rw [i_of (hr2 k1)]; exact k2⟩)] at k3
      rw [i_of (hr4 ⟨⟨k1, by rw [i_of (hr2 k1)]; exact k2⟩, by rw [i_of (hr3 ⟨k1, by rw [i_of (hr2 k1)]; exact k2⟩)]; exact k3⟩)] at k4
      omega
    · rintro ⟨k1, k2, k3, k4⟩
      have g1 : t1 < 0 := a1.1.2 (by omega)
      have g2 := i_of (hr2 g1)
      have g2' : 0 < t2 := by rw [g2]; exact a2.2.2 (by omega)
      have g3 := i_of (hr3 ⟨g1, g2'⟩)
      have g3' : t3 < 0 := by rw [g3]; exact a3.1.2 (by omega)
      have g4 := i_of (hr4 ⟨⟨g1, g2'⟩, g3'⟩)
      have g4' : 0 < t4 := by rw [g4]; exact a4.2.2 (by omega)
      exact ⟨⟨⟨g1, g2'⟩, g3'⟩, g4'⟩
  · cases hp
theorem ok11 : ContractOk Try.prog 11 c11 := by
  refine contract_of (Γ := knownOf [(17, c17)]) (known_cons ok17 rfl known_nil) Try.func11 rfl rfl is11 fun ds hk hp => ?_
  split at hp
  · skip
    rename_i px py
    unfold mayP at hp
    have hmay : mayP px py := hp
    have ht1 := Int.tdiv_eq_ediv (a := px) (b := 256)
    have ht2 := Int.tdiv_eq_ediv (a := py) (b := 256)
    obtain ⟨qx, hqx⟩ : ∃ q, px.tdiv 256 = q := ⟨_, rfl⟩
    obtain ⟨qy, hqy⟩ : ∃ q, py.tdiv 256 = q := ⟨_, rfl⟩
    have hnear := inT_near (px := px) (py := py)
    rw [hqx, hqy] at hnear
    have bx : -2097153 ≤ qx ∧ qx ≤ 2097153 := by
      have := floor_spec (n := px) (d := 256) (by omega)
      omega
    have by' : -2097153 ≤ qy ∧ qy ≤ 2097153 := by
      have := floor_spec (n := py) (d := 256) (by omega)
      omega
    clear ht1 ht2
    have hin : ∀ x y, inP px py x y → inT px py = (x, y, true) := fun x y h => by
      obtain ⟨h1, h2, h3⟩ := (inT_iff (px := px) (py := py) (x := x) (y := y)).2 h
      rw [← h1, ← h2, ← h3]
    refine h_need (by simp only [Env.sets, Env.set, BE.den, IE.den, DE.den, DV.int, DV.bool, DV.list, LOp.den, List.map_cons, List.map_nil, Nat.reduceEqDiff, ↓reduceIte, reduceCtorEq, Bool.and_eq_true, Bool.or_eq_true, Bool.not_eq_true', Bool.not_eq_false', Bool.and_eq_false_iff, Bool.or_eq_false_iff, decide_eq_true_eq, decide_eq_false_iff_not, hqx]; omega) (h_need (by simp only [Env.sets, Env.set, BE.den, IE.den, DE.den, DV.int, DV.bool, DV.list, LOp.den, List.map_cons, List.map_nil, Nat.reduceEqDiff, ↓reduceIte, reduceCtorEq, Bool.and_eq_true, Bool.or_eq_true, Bool.not_eq_true', Bool.not_eq_false', Bool.and_eq_false_iff, Bool.or_eq_false_iff, decide_eq_true_eq, decide_eq_false_iff_not, hqx]; omega) ?_)
    refine h_loop (fun ds => ∃ (p q : Int) (r : Bool) (x : Int), ds = [.i p, .i q, .b r, .i x] ∧ qx - 2 ≤ x ∧ x ≤ qx + 3 ∧ ∀ x' y', qx - 2 ≤ x' → x' < x → qy - 2 ≤ y' → y' ≤ qy + 2 → ¬ inP px py x' y') (fun | [_, _, _, .i x] => (qx + 3 - x).toNat | _ => 0) ⟨0, 0, false, qx - 2, by simp [DE.den, BE.den, IE.den, Env.sets, Env.set, DV.int, hqx], by omega, by omega, fun x' y' h1 h2 => by omega⟩ ?_
    intro ds _ ⟨p, q, r, x, hds, hx1, hx2, hall⟩
    subst hds
    refine h_need (by simp only [Env.sets, Env.set, BE.den, IE.den, DE.den, DV.int, DV.bool, DV.list, LOp.den, List.map_cons, List.map_nil, Nat.reduceEqDiff, ↓reduceIte, reduceCtorEq, Bool.and_eq_true, Bool.or_eq_true, Bool.not_eq_true', Bool.not_eq_false', Bool.and_eq_false_iff, Bool.or_eq_false_iff, decide_eq_true_eq, decide_eq_false_iff_not, hqx]; omega) (h_need (by simp only [Env.sets, Env.set, BE.den, IE.den, DE.den, DV.int, DV.bool, DV.list, LOp.den, List.map_cons, List.map_nil, Nat.reduceEqDiff, ↓reduceIte, reduceCtorEq, Bool.and_eq_true, Bool.or_eq_true, Bool.not_eq_true', Bool.not_eq_false', Bool.and_eq_false_iff, Bool.or_eq_false_iff, decide_eq_true_eq, decide_eq_false_iff_not, hqx]; omega) ?_)
    refine h_ite (fun g0 => ?_) (fun g0 => ?_)
    · simp only [Env.sets, Env.set, BE.den, IE.den, DE.den, DV.int, DV.bool, DV.list, LOp.den, List.map_cons, List.map_nil, Nat.reduceEqDiff, ↓reduceIte, reduceCtorEq, Bool.and_eq_true, Bool.or_eq_true, Bool.not_eq_true', Bool.not_eq_false', Bool.and_eq_false_iff, Bool.or_eq_false_iff, decide_eq_true_eq, decide_eq_false_iff_not, hqx] at g0
      refine h_need (by simp only [Env.sets, Env.set, BE.den, IE.den, DE.den, DV.int, DV.bool, DV.list, LOp.den, List.map_cons, List.map_nil, Nat.reduceEqDiff, ↓reduceIte, reduceCtorEq, Bool.and_eq_true, Bool.or_eq_true, Bool.not_eq_true', Bool.not_eq_false', Bool.and_eq_false_iff, Bool.or_eq_false_iff, decide_eq_true_eq, decide_eq_false_iff_not, hqy]; omega) (h_need (by simp only [Env.sets, Env.set, BE.den, IE.den, DE.den, DV.int, DV.bool, DV.list, LOp.den, List.map_cons, List.map_nil, Nat.reduceEqDiff, ↓reduceIte, reduceCtorEq, Bool.and_eq_true, Bool.or_eq_true, Bool.not_eq_true', Bool.not_eq_false', Bool.and_eq_false_iff, Bool.or_eq_false_iff, decide_eq_true_eq, decide_eq_false_iff_not, hqy]; omega) ?_)
      refine h_loop (fun ds => ∃ (p q : Int) (r : Bool) (y : Int), ds = [.i p, .i q, .b r, .i y] ∧ qy - 2 ≤ y ∧ y ≤ qy + 3 ∧ ∀ y', qy - 2 ≤ y' → y' < y → ¬ inP px py x y') (fun | [_, _, _, .i y] => (qy + 3 - y).toNat | _ => 0) ⟨p, q, r, qy - 2, by simp [DE.den, BE.den, IE.den, Env.sets, Env.set, DV.int, DV.bool, hqy], by omega, by omega, fun y' h1 h2 => by omega⟩ ?_
      intro ds _ ⟨p', q', r', y, hds, hy1, hy2, hally⟩
      subst hds
      refine h_need (by simp only [Env.sets, Env.set, BE.den, IE.den, DE.den, DV.int, DV.bool, DV.list, LOp.den, List.map_cons, List.map_nil, Nat.reduceEqDiff, ↓reduceIte, reduceCtorEq, Bool.and_eq_true, Bool.or_eq_true, Bool.not_eq_true', Bool.not_eq_false', Bool.and_eq_false_iff, Bool.or_eq_false_iff, decide_eq_true_eq, decide_eq_false_iff_not, hqy]; omega) (h_need (by simp only [Env.sets, Env.set, BE.den, IE.den, DE.den, DV.int, DV.bool, DV.list, LOp.den, List.map_cons, List.map_nil, Nat.reduceEqDiff, ↓reduceIte, reduceCtorEq, Bool.and_eq_true, Bool.or_eq_true, Bool.not_eq_true', Bool.not_eq_false', Bool.and_eq_false_iff, Bool.or_eq_false_iff, decide_eq_true_eq, decide_eq_false_iff_not, hqy]; omega) ?_)
      refine h_ite (fun g1 => ?_) (fun g1 => ?_)
      · simp only [Env.sets, Env.set, BE.den, IE.den, DE.den, DV.int, DV.bool, DV.list, LOp.den, List.map_cons, List.map_nil, Nat.reduceEqDiff, ↓reduceIte, reduceCtorEq, Bool.and_eq_true, Bool.or_eq_true, Bool.not_eq_true', Bool.not_eq_false', Bool.and_eq_false_iff, Bool.or_eq_false_iff, decide_eq_true_eq, decide_eq_false_iff_not, hqy] at g1
        refine h_call (c := c17) rfl (show mayP px py ∧ nearP x y from ⟨hmay, by unfold nearP; omega⟩) fun rs hk hr => ?_
        have hr : rs = [.b (decide (inP px py x y))] := hr
        subst hr
        refine h_ite (fun g2 => ?_) (fun g2 => ?_)
        · have g2 : decide (inP px py x y) = true := g2
          rw [decide_eq_true_eq] at g2
          show [DV.i x, .i y, .b true] = [DV.i (inT px py).1, .i (inT px py).2.1, .b (inT px py).2.2]
          rw [hin x y g2]
        · have g2 : decide (inP px py x y) = false := g2
          rw [decide_eq_false_iff_not] at g2
          refine h_need (by simp only [Env.sets, Env.set, BE.den, IE.den, DE.den, DV.int, DV.bool, DV.list, LOp.den, List.map_cons, List.map_nil, Nat.reduceEqDiff, ↓reduceIte, reduceCtorEq, Bool.and_eq_true, Bool.or_eq_true, Bool.not_eq_true', Bool.not_eq_false', Bool.and_eq_false_iff, Bool.or_eq_false_iff, decide_eq_true_eq, decide_eq_false_iff_not]; omega) ?_
          refine h_again ⟨⟨p', q', r', y + 1, by simp [DE.den, BE.den, IE.den, Env.sets, Env.set, DV.int, DV.bool], by omega, by omega, fun y' k1 k2 => ?_⟩, ?_⟩
          · by_cases he : y' = y
            · rw [he]; exact g2
            · exact hally y' k1 (by omega)
          · simp only [Env.sets, Env.set, BE.den, IE.den, DE.den, DV.int, DV.bool, DV.list, LOp.den, List.map_cons, List.map_nil, Nat.reduceEqDiff, ↓reduceIte, reduceCtorEq, Bool.and_eq_true, Bool.or_eq_true, Bool.not_eq_true', Bool.not_eq_false', Bool.and_eq_false_iff, Bool.or_eq_false_iff, decide_eq_true_eq, decide_eq_false_iff_not]
            omega
      · simp only [Env.sets, Env.set, BE.den, IE.den, DE.den, DV.int, DV.bool, DV.list, LOp.den, List.map_cons, List.map_nil, Nat.reduceEqDiff, ↓reduceIte, reduceCtorEq, Bool.and_eq_true, Bool.or_eq_true, Bool.not_eq_true', Bool.not_eq_false', Bool.and_eq_false_iff, Bool.or_eq_false_iff, decide_eq_true_eq, decide_eq_false_iff_not, hqy] at g1
        refine h_need (by simp only [Env.sets, Env.set, BE.den, IE.den, DE.den, DV.int, DV.bool, DV.list, LOp.den, List.map_cons, List.map_nil, Nat.reduceEqDiff, ↓reduceIte, reduceCtorEq, Bool.and_eq_true, Bool.or_eq_true, Bool.not_eq_true', Bool.not_eq_false', Bool.and_eq_false_iff, Bool.or_eq_false_iff, decide_eq_true_eq, decide_eq_false_iff_not]; omega) ?_
        have hne : (2 : Nat) ≠ 5 := by decide
        simp only [Tree.holds, upF, if_neg hne, if_true]
        refine ⟨⟨p', q', r', x + 1, by simp [DE.den, BE.den, IE.den, Env.sets, Env.set, DV.int, DV.bool], by omega, by omega, fun x' y' k1 k2 k3 k4 => ?_⟩, ?_⟩
        · by_cases he : x' = x
          · rw [he]; exact hally y' k3 (by omega)
          · exact hall x' y' k1 (by omega) k3 k4
        · simp only [Env.sets, Env.set, BE.den, IE.den, DE.den, DV.int, DV.bool, DV.list, LOp.den, List.map_cons, List.map_nil, Nat.reduceEqDiff, ↓reduceIte, reduceCtorEq, Bool.and_eq_true, Bool.or_eq_true, Bool.not_eq_true', Bool.not_eq_false', Bool.and_eq_false_iff, Bool.or_eq_false_iff, decide_eq_true_eq, decide_eq_false_iff_not]
          omega
    · simp only [Env.sets, Env.set, BE.den, IE.den, DE.den, DV.int, DV.bool, DV.list, LOp.den, List.map_cons, List.map_nil, Nat.reduceEqDiff, ↓reduceIte, reduceCtorEq, Bool.and_eq_true, Bool.or_eq_true, Bool.not_eq_true', Bool.not_eq_false', Bool.and_eq_false_iff, Bool.or_eq_false_iff, decide_eq_true_eq, decide_eq_false_iff_not, hqx] at g0
      show [DV.i 0, .i 0, .b false] = [DV.i (inT px py).1, .i (inT px py).2.1, .b (inT px py).2.2]
      cases hb : (inT px py).2.2 with
      | false => rw [inT_none hb]
      | true =>
        exfalso
        obtain ⟨n1, n2, n3, n4⟩ := hnear hb
        exact hall (inT px py).1 (inT px py).2.1 n1 (by omega) n3 n4 (inT_iff.1 ⟨hb, rfl, rfl⟩)
  · cases hp
end Go.Proofs.Ytokmmjhnhmealaa.Fns
