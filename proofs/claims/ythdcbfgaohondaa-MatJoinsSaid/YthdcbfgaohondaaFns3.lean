/- Layer 5: moves and turns, the example. -/
import Derived.Test.YthdcbfgaohondaaFns2
set_option linter.unusedVariables false
set_option linter.unusedSimpArgs false
set_option maxRecDepth 10000
namespace Go.Proofs.Ythdcbfgaohondaa.Fns
open Go.Sx Go.Proofs.Ythdcbfgaohondaa.Trees

def cosI (r : Int) : Int := if r = 0 then 65536 else if r = 2 then -65536 else 0
def sinI (r : Int) : Int := if r = 1 then 65536 else if r = 3 then -65536 else 0
def turnL (a r : Int) : List Int :=
  if a = 0 then [65536, 0, 0, 0, 0, cosI r, -sinI r, 0, 0, sinI r, cosI r, 0, 0, 0, 0, 65536]
  else if a = 1 then [cosI r, 0, sinI r, 0, 0, 65536, 0, 0, -sinI r, 0, cosI r, 0, 0, 0, 0, 65536]
  else [cosI r, -sinI r, 0, 0, sinI r, cosI r, 0, 0, 0, 0, 65536, 0, 0, 0, 0, 65536]
def axis (a : Int) : Prop := 0 ≤ a ∧ a ≤ 2
instance (a : Int) : Decidable (axis a) := inferInstanceAs (Decidable (_ ∧ _))
def turnI (a q : Int) (j : Nat) : Int := if axis a then (turnL a (q % 4)).getD j 0 else 0
def turnE (a : Int) : Int := if axis a then 0 else 1
def moveL (x y z : Int) : List Int := [65536, 0, 0, x * 65536, 0, 65536, 0, y * 65536, 0, 0, 65536, z * 65536, 0, 0, 0, 65536]
def moveOk (x y z : Int) : Prop := (-4096 ≤ x ∧ x ≤ 4096) ∧ (-4096 ≤ y ∧ y ≤ 4096) ∧ (-4096 ≤ z ∧ z ≤ 4096)
instance (x y z : Int) : Decidable (moveOk x y z) := inferInstanceAs (Decidable (_ ∧ _))
def moveI (x y z : Int) (j : Nat) : Int := if moveOk x y z then (moveL x y z).getD j 0 else 0
def moveE (x y z : Int) : Int := if moveOk x y z then 0 else 4
theorem turn_ok {a q : Int} (h : axis a) : (∀ j, turnI a q j = (turnL a (q % 4)).getD j 0) ∧ turnE a = 0 := ⟨fun j => by unfold turnI; rw [if_pos h], by unfold turnE; rw [if_pos h]⟩
theorem turn_bad {a q : Int} (h : ¬ axis a) : (∀ j, turnI a q j = 0) ∧ turnE a = 1 := ⟨fun j => by unfold turnI; rw [if_neg h], by unfold turnE; rw [if_neg h]⟩
theorem move_ok {x y z : Int} (h : moveOk x y z) : (∀ j, moveI x y z j = (moveL x y z).getD j 0) ∧ moveE x y z = 0 := ⟨fun j => by unfold moveI; rw [if_pos h], by unfold moveE; rw [if_pos h]⟩
theorem move_bad {x y z : Int} (h : ¬ moveOk x y z) : (∀ j, moveI x y z j = 0) ∧ moveE x y z = 4 := ⟨fun j => by unfold moveI; rw [if_neg h], by unfold moveE; rw [if_neg h]⟩
theorem turn_right (a r : Int) : rightP (turnL a r) := by
  have hc : inB (cosI r) := by unfold cosI inB; grind
  have hs : inB (sinI r) := by unfold sinI inB; grind
  have hs' : inB (-sinI r) := by unfold inB at *; omega
  have h1 : inB 65536 := by unfold inB; omega
  have h0 : inB 0 := by unfold inB; omega
  intro x hx
  unfold turnL at hx
  split at hx
  · simp only [List.mem_cons, List.not_mem_nil, or_false] at hx
    rcases hx with rfl | rfl | rfl | rfl | rfl | rfl | rfl | rfl | rfl | rfl | rfl | rfl | rfl | rfl | rfl | rfl <;> assumption
  · split at hx
    all_goals
      simp only [List.mem_cons, List.not_mem_nil, or_false] at hx
      rcases hx with rfl | rfl | rfl | rfl | rfl | rfl | rfl | rfl | rfl | rfl | rfl | rfl | rfl | rfl | rfl | rfl <;> assumption
theorem turn_prod3 : ∀ a : Fin 3, ∀ i : Fin 4, ∀ j : Fin 4, prodL (turnL (a.val : Int) (i.val : Int)) (turnL (a.val : Int) (j.val : Int)) = turnL (a.val : Int) (((i.val : Int) + (j.val : Int)) % 4) := by decide +kernel
theorem turn_prod {a i j : Int} (ha : axis a) (hi : 0 ≤ i ∧ i ≤ 3) (hj : 0 ≤ j ∧ j ≤ 3) : prodL (turnL a i) (turnL a j) = turnL a ((i + j) % 4) := by
  unfold axis at ha
  have := turn_prod3 ⟨a.toNat, by omega⟩ ⟨i.toNat, by omega⟩ ⟨j.toNat, by omega⟩
  simp only [Int.toNat_of_nonneg ha.1, Int.toNat_of_nonneg hi.1, Int.toNat_of_nonneg hj.1] at this
  exact this
theorem turn_mul {a i j : Int} (ha : axis a) (hi : 0 ≤ i ∧ i ≤ 3) (hj : 0 ≤ j ∧ j ≤ 3) : (∀ n, mulI (turnL a i) (turnL a j) n = (turnL a ((i + j) % 4)).getD n 0) ∧ mulE (turnL a i) (turnL a j) = 0 := by
  have h := mul_ok (turn_right a i) (turn_right a j) (by rw [turn_prod ha hi hj]; exact turn_right _ _)
  rw [turn_prod ha hi hj] at h
  exact h
theorem list16 {l : List Int} (h : l.length = 16) : [l.getD 0 0, l.getD 1 0, l.getD 2 0, l.getD 3 0, l.getD 4 0, l.getD 5 0, l.getD 6 0, l.getD 7 0, l.getD 8 0, l.getD 9 0, l.getD 10 0, l.getD 11 0, l.getD 12 0, l.getD 13 0, l.getD 14 0, l.getD 15 0] = l := by
  match l, h with
  | [a0, a1, a2, a3, a4, a5, a6, a7, a8, a9, a10, a11, a12, a13, a14, a15], _ => rfl
theorem quarters (q : Int) : 0 ≤ (q.tmod 4 + 4).tmod 4 ∧ (q.tmod 4 + 4).tmod 4 = q % 4 ∧ -4 < q.tmod 4 ∧ q.tmod 4 < 4 := by
  have h1 := Int.tmod_lt_of_pos q (show (0:Int) < 4 by omega)
  have h2 := Int.lt_tmod_of_pos q (show (0:Int) < 4 by omega)
  have h3 : (q.tmod 4 + 4).tmod 4 = (q.tmod 4 + 4) % 4 := Int.tmod_eq_emod_of_nonneg (by omega)
  have h4 : q.tmod 4 % 4 = q % 4 := by
    have := Int.tmod_add_mul_tdiv q 4
    omega
  omega
theorem turn_len (a r : Int) : (turnL a r).length = 16 := by 
  unfold turnL
  split
  · rfl
  · split <;> rfl
def cTurn (sg : Sig) : Contract := CFn sg (fun | [.i a, .i q] => True | _ => False) (fun | [.i a, .i q] => [.i (turnI a q 0), .i (turnI a q 1), .i (turnI a q 2), .i (turnI a q 3), .i (turnI a q 4), .i (turnI a q 5), .i (turnI a q 6), .i (turnI a q 7), .i (turnI a q 8), .i (turnI a q 9), .i (turnI a q 10), .i (turnI a q 11), .i (turnI a q 12), .i (turnI a q 13), .i (turnI a q 14), .i (turnI a q 15), .i (turnE a)] | _ => [])
def cMove (sg : Sig) : Contract := CFn sg (fun | [.i x, .i y, .i z] => True | _ => False) (fun | [.i x, .i y, .i z] => [.i (moveI x y z 0), .i (moveI x y z 1), .i (moveI x y z 2), .i (moveI x y z 3), .i (moveI x y z 4), .i (moveI x y z 5), .i (moveI x y z 6), .i (moveI x y z 7), .i (moveI x y z 8), .i (moveI x y z 9), .i (moveI x y z 10), .i (moveI x y z 11), .i (moveI x y z 12), .i (moveI x y z 13), .i (moveI x y z 14), .i (moveI x y z 15), .i (moveE x y z)] | _ => [])
theorem ok20 : ContractOk Try.prog 20 (cTurn sg20) := by
  refine contract_of (Γ := knownOf [(18, cUnit sg18)]) (known_cons ok18 rfl known_nil) Try.func20 rfl rfl is20 fun ds hk hp => ?_
  split at hp
  · skip
    rename_i a q
    refine h_ite (fun g => ?_) (fun g => ?_)
    · have g : (decide (a < 0) || decide (2 < a)) = true := g
      have hbad : ¬ axis a := by simp only [Bool.or_eq_true, decide_eq_true_eq] at g; unfold axis; omega
      show ([.i 0, .i 0, .i 0, .i 0, .i 0, .i 0, .i 0, .i 0, .i 0, .i 0, .i 0, .i 0, .i 0, .i 0, .i 0, .i 0, .i 1] : List DV) = [.i (turnI a q 0), .i (turnI a q 1), .i (turnI a q 2), .i (turnI a q 3), .i (turnI a q 4), .i (turnI a q 5), .i (turnI a q 6), .i (turnI a q 7), .i (turnI a q 8), .i (turnI a q 9), .i (turnI a q 10), .i (turnI a q 11), .i (turnI a q 12), .i (turnI a q 13), .i (turnI a q 14), .i (turnI a q 15), .i (turnE a)]
      rw [(turn_bad (q := q) hbad).2]
      simp only [(turn_bad (q := q) hbad).1]
    have g : (decide (a < 0) || decide (2 < a)) = false := g
    have hax : axis a := by simp only [Bool.or_eq_false_iff, decide_eq_false_iff_not] at g; unfold axis; omega
    clear g
    rcases (show a = 0 ∨ a = 1 ∨ a = 2 by unfold axis at hax; omega) with rfl | rfl | rfl
    · refine h_call (c := cUnit sg18) rfl trivial fun rs hk hr => ?_
      have hr : rs = [.i 65536, .i 0, .i 0, .i 0, .i 0, .i 65536, .i 0, .i 0, .i 0, .i 0, .i 65536, .i 0, .i 0, .i 0, .i 0, .i 65536] := hr
      subst hr
      iterate 2 refine h_need rfl ?_
      refine h_ite (fun g => ?_) (fun g => ?_)
      · have hq : q % 4 = 0 := of_decide_eq_true g
        iterate 14 refine h_need rfl ?_
        show ([.i (((turnL 0 0).getD 0 0)), .i (((turnL 0 0).getD 1 0)), .i (((turnL 0 0).getD 2 0)), .i (((turnL 0 0).getD 3 0)), .i (((turnL 0 0).getD 4 0)), .i (((turnL 0 0).getD 5 0)), .i (((turnL 0 0).getD 6 0)), .i (((turnL 0 0).getD 7 0)), .i (((turnL 0 0).getD 8 0)), .i (((turnL 0 0).getD 9 0)), .i (((turnL 0 0).getD 10 0)), .i (((turnL 0 0).getD 11 0)), .i (((turnL 0 0).getD 12 0)), .i (((turnL 0 0).getD 13 0)), .i (((turnL 0 0).getD 14 0)), .i (((turnL 0 0).getD 15 0)), .i 0] : List DV) = [.i (turnI 0 q 0), .i (turnI 0 q 1), .i (turnI 0 q 2), .i (turnI 0 q 3), .i (turnI 0 q 4), .i (turnI 0 q 5), .i (turnI 0 q 6), .i (turnI 0 q 7), .i (turnI 0 q 8), .i (turnI 0 q 9), .i (turnI 0 q 10), .i (turnI 0 q 11), .i (turnI 0 q 12), .i (turnI 0 q 13), .i (turnI 0 q 14), .i (turnI 0 q 15), .i (turnE 0)]
        rw [(turn_ok (q := q) hax).2]
        simp only [(turn_ok (q := q) hax).1, hq]
      refine h_ite (fun g1 => ?_) (fun g1 => ?_)
      · have hq : q % 4 = 1 := of_decide_eq_true g1
        iterate 14 refine h_need rfl ?_
        show ([.i (((turnL 0 1).getD 0 0)), .i (((turnL 0 1).getD 1 0)), .i (((turnL 0 1).getD 2 0)), .i (((turnL 0 1).getD 3 0)), .i (((turnL 0 1).getD 4 0)), .i (((turnL 0 1).getD 5 0)), .i (((turnL 0 1).getD 6 0)), .i (((turnL 0 1).getD 7 0)), .i (((turnL 0 1).getD 8 0)), .i (((turnL 0 1).getD 9 0)), .i (((turnL 0 1).getD 10 0)), .i (((turnL 0 1).getD 11 0)), .i (((turnL 0 1).getD 12 0)), .i (((turnL 0 1).getD 13 0)), .i (((turnL 0 1).getD 14 0)), .i (((turnL 0 1).getD 15 0)), .i 0] : List DV) = [.i (turnI 0 q 0), .i (turnI 0 q 1), .i (turnI 0 q 2), .i (turnI 0 q 3), .i (turnI 0 q 4), .i (turnI 0 q 5), .i (turnI 0 q 6), .i (turnI 0 q 7), .i (turnI 0 q 8), .i (turnI 0 q 9), .i (turnI 0 q 10), .i (turnI 0 q 11), .i (turnI 0 q 12), .i (turnI 0 q 13), .i (turnI 0 q 14), .i (turnI 0 q 15), .i (turnE 0)]
        rw [(turn_ok (q := q) hax).2]
        simp only [(turn_ok (q := q) hax).1, hq]
      refine h_ite (fun g2 => ?_) (fun g2 => ?_)
      · have hq : q % 4 = 2 := of_decide_eq_true g2
        iterate 14 refine h_need rfl ?_
        show ([.i (((turnL 0 2).getD 0 0)), .i (((turnL 0 2).getD 1 0)), .i (((turnL 0 2).getD 2 0)), .i (((turnL 0 2).getD 3 0)), .i (((turnL 0 2).getD 4 0)), .i (((turnL 0 2).getD 5 0)), .i (((turnL 0 2).getD 6 0)), .i (((turnL 0 2).getD 7 0)), .i (((turnL 0 2).getD 8 0)), .i (((turnL 0 2).getD 9 0)), .i (((turnL 0 2).getD 10 0)), .i (((turnL 0 2).getD 11 0)), .i (((turnL 0 2).getD 12 0)), .i (((turnL 0 2).getD 13 0)), .i (((turnL 0 2).getD 14 0)), .i (((turnL 0 2).getD 15 0)), .i 0] : List DV) = [.i (turnI 0 q 0), .i (turnI 0 q 1), .i (turnI 0 q 2), .i (turnI 0 q 3), .i (turnI 0 q 4), .i (turnI 0 q 5), .i (turnI 0 q 6), .i (turnI 0 q 7), .i (turnI 0 q 8), .i (turnI 0 q 9), .i (turnI 0 q 10), .i (turnI 0 q 11), .i (turnI 0 q 12), .i (turnI 0 q 13), .i (turnI 0 q 14), .i (turnI 0 q 15), .i (turnE 0)]
        rw [(turn_ok (q := q) hax).2]
        simp only [(turn_ok (q := q) hax).1, hq]
      have n0 : ¬ q % 4 = 0 := of_decide_eq_false g
      have n1 : ¬ q % 4 = 1 := of_decide_eq_false g1
      have n2 : ¬ q % 4 = 2 := of_decide_eq_false g2
      have hq : q % 4 = 3 := by omega
      iterate 14 refine h_need rfl ?_
      show ([.i (((turnL 0 3).getD 0 0)), .i (((turnL 0 3).getD 1 0)), .i (((turnL 0 3).getD 2 0)), .i (((turnL 0 3).getD 3 0)), .i (((turnL 0 3).getD 4 0)), .i (((turnL 0 3).getD 5 0)), .i (((turnL 0 3).getD 6 0)), .i (((turnL 0 3).getD 7 0)), .i (((turnL 0 3).getD 8 0)), .i (((turnL 0 3).getD 9 0)), .i (((turnL 0 3).getD 10 0)), .i (((turnL 0 3).getD 11 0)), .i (((turnL 0 3).getD 12 0)), .i (((turnL 0 3).getD 13 0)), .i (((turnL 0 3).getD 14 0)), .i (((turnL 0 3).getD 15 0)), .i 0] : List DV) = [.i (turnI 0 q 0), .i (turnI 0 q 1), .i (turnI 0 q 2), .i (turnI 0 q 3), .i (turnI 0 q 4), .i (turnI 0 q 5), .i (turnI 0 q 6), .i (turnI 0 q 7), .i (turnI 0 q 8), .i (turnI 0 q 9), .i (turnI 0 q 10), .i (turnI 0 q 11), .i (turnI 0 q 12), .i (turnI 0 q 13), .i (turnI 0 q 14), .i (turnI 0 q 15), .i (turnE 0)]
      rw [(turn_ok (q := q) hax).2]
      simp only [(turn_ok (q := q) hax).1, hq]
    · refine h_call (c := cUnit sg18) rfl trivial fun rs hk hr => ?_
      have hr : rs = [.i 65536, .i 0, .i 0, .i 0, .i 0, .i 65536, .i 0, .i 0, .i 0, .i 0, .i 65536, .i 0, .i 0, .i 0, .i 0, .i 65536] := hr
      subst hr
      iterate 2 refine h_need rfl ?_
      refine h_ite (fun g => ?_) (fun g => ?_)
      · have hq : q % 4 = 0 := of_decide_eq_true g
        iterate 14 refine h_need rfl ?_
        show ([.i (((turnL 1 0).getD 0 0)), .i (((turnL 1 0).getD 1 0)), .i (((turnL 1 0).getD 2 0)), .i (((turnL 1 0).getD 3 0)), .i (((turnL 1 0).getD 4 0)), .i (((turnL 1 0).getD 5 0)), .i (((turnL 1 0).getD 6 0)), .i (((turnL 1 0).getD 7 0)), .i (((turnL 1 0).getD 8 0)), .i (((turnL 1 0).getD 9 0)), .i (((turnL 1 0).getD 10 0)), .i (((turnL 1 0).getD 11 0)), .i (((turnL 1 0).getD 12 0)), .i (((turnL 1 0).getD 13 0)), .i (((turnL 1 0).getD 14 0)), .i (((turnL 1 0).getD 15 0)), .i 0] : List DV) = [.i (turnI 1 q 0), .i (turnI 1 q 1), .i (turnI 1 q 2), .i (turnI 1 q 3), .i (turnI 1 q 4), .i (turnI 1 q 5), .i (turnI 1 q 6), .i (turnI 1 q 7), .i (turnI 1 q 8), .i (turnI 1 q 9), .i (turnI 1 q 10), .i (turnI 1 q 11), .i (turnI 1 q 12), .i (turnI 1 q 13), .i (turnI 1 q 14), .i (turnI 1 q 15), .i (turnE 1)]
        rw [(turn_ok (q := q) hax).2]
        simp only [(turn_ok (q := q) hax).1, hq]
      refine h_ite (fun g1 => ?_) (fun g1 => ?_)
      · have hq : q % 4 = 1 := of_decide_eq_true g1
        iterate 14 refine h_need rfl ?_
        show ([.i (((turnL 1 1).getD 0 0)), .i (((turnL 1 1).getD 1 0)), .i (((turnL 1 1).getD 2 0)), .i (((turnL 1 1).getD 3 0)), .i (((turnL 1 1).getD 4 0)), .i (((turnL 1 1).getD 5 0)), .i (((turnL 1 1).getD 6 0)), .i (((turnL 1 1).getD 7 0)), .i (((turnL 1 1).getD 8 0)), .i (((turnL 1 1).getD 9 0)), .i (((turnL 1 1).getD 10 0)), .i (((turnL 1 1).getD 11 0)), .i (((turnL 1 1).getD 12 0)), .i (((turnL 1 1).getD 13 0)), .i (((turnL 1 1).getD 14 0)), .i (((turnL 1 1).getD 15 0)), .i 0] : List DV) = [.i (turnI 1 q 0), .i (turnI 1 q 1), .i (turnI 1 q 2), .i (turnI 1 q 3), .i (turnI 1 q 4), .i (turnI 1 q 5), .i (turnI 1 q 6), .i (turnI 1 q 7), .i (turnI 1 q 8), .i (turnI 1 q 9), .i (turnI 1 q 10), .i (turnI 1 q 11), .i (turnI 1 q 12), .i (turnI 1 q 13), .i (turnI 1 q 14), .i (turnI 1 q 15), .i (turnE 1)]
        rw [(turn_ok (q := q) hax).2]
        simp only [(turn_ok (q := q) hax).1, hq]
      refine h_ite (fun g2 => ?_) (fun g2 => ?_)
      · have hq : q % 4 = 2 := of_decide_eq_true g2
        iterate 14 refine h_need rfl ?_
        show ([.i (((turnL 1 2).getD 0 0)), .i (((turnL 1 2).getD 1 0)), .i (((turnL 1 2).getD 2 0)), .i (((turnL 1 2).getD 3 0)), .i (((turnL 1 2).getD 4 0)), .i (((turnL 1 2).getD 5 0)), .i (((turnL 1 2).getD 6 0)), .i (((turnL 1 2).getD 7 0)), .i (((turnL 1 2).getD 8 0)), .i (((turnL 1 2).getD 9 0)), .i (((turnL 1 2).getD 10 0)), .i (((turnL 1 2).getD 11 0)), .i (((turnL 1 2).getD 12 0)), .i (((turnL 1 2).getD 13 0)), .i (((turnL 1 2).getD 14 0)), .i (((turnL 1 2).getD 15 0)), .i 0] : List DV) = [.i (turnI 1 q 0), .i (turnI 1 q 1), .i (turnI 1 q 2), .i (turnI 1 q 3), .i (turnI 1 q 4), .i (turnI 1 q 5), .i (turnI 1 q 6), .i (turnI 1 q 7), .i (turnI 1 q 8), .i (turnI 1 q 9), .i (turnI 1 q 10), .i (turnI 1 q 11), .i (turnI 1 q 12), .i (turnI 1 q 13), .i (turnI 1 q 14), .i (turnI 1 q 15), .i (turnE 1)]
        rw [(turn_ok (q := q) hax).2]
        simp only [(turn_ok (q := q) hax).1, hq]
      have n0 : ¬ q % 4 = 0 := of_decide_eq_false g
      have n1 : ¬ q % 4 = 1 := of_decide_eq_false g1
      have n2 : ¬ q % 4 = 2 := of_decide_eq_false g2
      have hq : q % 4 = 3 := by omega
      iterate 14 refine h_need rfl ?_
      show ([.i (((turnL 1 3).getD 0 0)), .i (((turnL 1 3).getD 1 0)), .i (((turnL 1 3).getD 2 0)), .i (((turnL 1 3).getD 3 0)), .i (((turnL 1 3).getD 4 0)), .i (((turnL 1 3).getD 5 0)), .i (((turnL 1 3).getD 6 0)), .i (((turnL 1 3).getD 7 0)), .i (((turnL 1 3).getD 8 0)), .i (((turnL 1 3).getD 9 0)), .i (((turnL 1 3).getD 10 0)), .i (((turnL 1 3).getD 11 0)), .i (((turnL 1 3).getD 12 0)), .i (((turnL 1 3).getD 13 0)), .i (((turnL 1 3).getD 14 0)), .i (((turnL 1 3).getD 15 0)), .i 0] : List DV) = [.i (turnI 1 q 0), .i (turnI 1 q 1), .i (turnI 1 q 2), .i (turnI 1 q 3), .i (turnI 1 q 4), .i (turnI 1 q 5), .i (turnI 1 q 6), .i (turnI 1 q 7), .i (turnI 1 q 8), .i (turnI 1 q 9), .i (turnI 1 q 10), .i (turnI 1 q 11), .i (turnI 1 q 12), .i (turnI 1 q 13), .i (turnI 1 q 14), .i (turnI 1 q 15), .i (turnE 1)]
      rw [(turn_ok (q := q) hax).2]
      simp only [(turn_ok (q := q) hax).1, hq]
    · refine h_call (c := cUnit sg18) rfl trivial fun rs hk hr => ?_
      have hr : rs = [.i 65536, .i 0, .i 0, .i 0, .i 0, .i 65536, .i 0, .i 0, .i 0, .i 0, .i 65536, .i 0, .i 0, .i 0, .i 0, .i 65536] := hr
      subst hr
      iterate 2 refine h_need rfl ?_
      refine h_ite (fun g => ?_) (fun g => ?_)
      · have hq : q % 4 = 0 := of_decide_eq_true g
        iterate 14 refine h_need rfl ?_
        show ([.i (((turnL 2 0).getD 0 0)), .i (((turnL 2 0).getD 1 0)), .i (((turnL 2 0).getD 2 0)), .i (((turnL 2 0).getD 3 0)), .i (((turnL 2 0).getD 4 0)), .i (((turnL 2 0).getD 5 0)), .i (((turnL 2 0).getD 6 0)), .i (((turnL 2 0).getD 7 0)), .i (((turnL 2 0).getD 8 0)), .i (((turnL 2 0).getD 9 0)), .i (((turnL 2 0).getD 10 0)), .i (((turnL 2 0).getD 11 0)), .i (((turnL 2 0).getD 12 0)), .i (((turnL 2 0).getD 13 0)), .i (((turnL 2 0).getD 14 0)), .i (((turnL 2 0).getD 15 0)), .i 0] : List DV) = [.i (turnI 2 q 0), .i (turnI 2 q 1), .i (turnI 2 q 2), .i (turnI 2 q 3), .i (turnI 2 q 4), .i (turnI 2 q 5), .i (turnI 2 q 6), .i (turnI 2 q 7), .i (turnI 2 q 8), .i (turnI 2 q 9), .i (turnI 2 q 10), .i (turnI 2 q 11), .i (turnI 2 q 12), .i (turnI 2 q 13), .i (turnI 2 q 14), .i (turnI 2 q 15), .i (turnE 2)]
        rw [(turn_ok (q := q) hax).2]
        simp only [(turn_ok (q := q) hax).1, hq]
      refine h_ite (fun g1 => ?_) (fun g1 => ?_)
      · have hq : q % 4 = 1 := of_decide_eq_true g1
        iterate 14 refine h_need rfl ?_
        show ([.i (((turnL 2 1).getD 0 0)), .i (((turnL 2 1).getD 1 0)), .i (((turnL 2 1).getD 2 0)), .i (((turnL 2 1).getD 3 0)), .i (((turnL 2 1).getD 4 0)), .i (((turnL 2 1).getD 5 0)), .i (((turnL 2 1).getD 6 0)), .i (((turnL 2 1).getD 7 0)), .i (((turnL 2 1).getD 8 0)), .i (((turnL 2 1).getD 9 0)), .i (((turnL 2 1).getD 10 0)), .i (((turnL 2 1).getD 11 0)), .i (((turnL 2 1).getD 12 0)), .i (((turnL 2 1).getD 13 0)), .i (((turnL 2 1).getD 14 0)), .i (((turnL 2 1).getD 15 0)), .i 0] : List DV) = [.i (turnI 2 q 0), .i (turnI 2 q 1), .i (turnI 2 q 2), .i (turnI 2 q 3), .i (turnI 2 q 4), .i (turnI 2 q 5), .i (turnI 2 q 6), .i (turnI 2 q 7), .i (turnI 2 q 8), .i (turnI 2 q 9), .i (turnI 2 q 10), .i (turnI 2 q 11), .i (turnI 2 q 12), .i (turnI 2 q 13), .i (turnI 2 q 14), .i (turnI 2 q 15), .i (turnE 2)]
        rw [(turn_ok (q := q) hax).2]
        simp only [(turn_ok (q := q) hax).1, hq]
      refine h_ite (fun g2 => ?_) (fun g2 => ?_)
      · have hq : q % 4 = 2 := of_decide_eq_true g2
        iterate 14 refine h_need rfl ?_
        show ([.i (((turnL 2 2).getD 0 0)), .i (((turnL 2 2).getD 1 0)), .i (((turnL 2 2).getD 2 0)), .i (((turnL 2 2).getD 3 0)), .i (((turnL 2 2).getD 4 0)), .i (((turnL 2 2).getD 5 0)), .i (((turnL 2 2).getD 6 0)), .i (((turnL 2 2).getD 7 0)), .i (((turnL 2 2).getD 8 0)), .i (((turnL 2 2).getD 9 0)), .i (((turnL 2 2).getD 10 0)), .i (((turnL 2 2).getD 11 0)), .i (((turnL 2 2).getD 12 0)), .i (((turnL 2 2).getD 13 0)), .i (((turnL 2 2).getD 14 0)), .i (((turnL 2 2).getD 15 0)), .i 0] : List DV) = [.i (turnI 2 q 0), .i (turnI 2 q 1), .i (turnI 2 q 2), .i (turnI 2 q 3), .i (turnI 2 q 4), .i (turnI 2 q 5), .i (turnI 2 q 6), .i (turnI 2 q 7), .i (turnI 2 q 8), .i (turnI 2 q 9), .i (turnI 2 q 10), .i (turnI 2 q 11), .i (turnI 2 q 12), .i (turnI 2 q 13), .i (turnI 2 q 14), .i (turnI 2 q 15), .i (turnE 2)]
        rw [(turn_ok (q := q) hax).2]
        simp only [(turn_ok (q := q) hax).1, hq]
      have n0 : ¬ q % 4 = 0 := of_decide_eq_false g
      have n1 : ¬ q % 4 = 1 := of_decide_eq_false g1
      have n2 : ¬ q % 4 = 2 := of_decide_eq_false g2
      have hq : q % 4 = 3 := by omega
      iterate 14 refine h_need rfl ?_
      show ([.i (((turnL 2 3).getD 0 0)), .i (((turnL 2 3).getD 1 0)), .i (((turnL 2 3).getD 2 0)), .i (((turnL 2 3).getD 3 0)), .i (((turnL 2 3).getD 4 0)), .i (((turnL 2 3).getD 5 0)), .i (((turnL 2 3).getD 6 0)), .i (((turnL 2 3).getD 7 0)), .i (((turnL 2 3).getD 8 0)), .i (((turnL 2 3).getD 9 0)), .i (((turnL 2 3).getD 10 0)), .i (((turnL 2 3).getD 11 0)), .i (((turnL 2 3).getD 12 0)), .i (((turnL 2 3).getD 13 0)), .i (((turnL 2 3).getD 14 0)), .i (((turnL 2 3).getD 15 0)), .i 0] : List DV) = [.i (turnI 2 q 0), .i (turnI 2 q 1), .i (turnI 2 q 2), .i (turnI 2 q 3), .i (turnI 2 q 4), .i (turnI 2 q 5), .i (turnI 2 q 6), .i (turnI 2 q 7), .i (turnI 2 q 8), .i (turnI 2 q 9), .i (turnI 2 q 10), .i (turnI 2 q 11), .i (turnI 2 q 12), .i (turnI 2 q 13), .i (turnI 2 q 14), .i (turnI 2 q 15), .i (turnE 2)]
      rw [(turn_ok (q := q) hax).2]
      simp only [(turn_ok (q := q) hax).1, hq]
  · cases hp
theorem ok23 : ContractOk Try.prog 23 (cTurn sg23) := by
  refine contract_of (Γ := knownOf [(19, cUnit sg19), (13, cMul sg13)]) (known_cons ok19 rfl (known_cons ok13 rfl known_nil)) Try.func23 rfl rfl is23 fun ds hk hp => ?_
  split at hp
  · skip
    rename_i a q
    refine h_ite (fun g => ?_) (fun g => ?_)
    · have g : (decide (a < 0) || decide (2 < a)) = true := g
      have hbad : ¬ axis a := by simp only [Bool.or_eq_true, decide_eq_true_eq] at g; unfold axis; omega
      show ([.i 0, .i 0, .i 0, .i 0, .i 0, .i 0, .i 0, .i 0, .i 0, .i 0, .i 0, .i 0, .i 0, .i 0, .i 0, .i 0, .i 1] : List DV) = [.i (turnI a q 0), .i (turnI a q 1), .i (turnI a q 2), .i (turnI a q 3), .i (turnI a q 4), .i (turnI a q 5), .i (turnI a q 6), .i (turnI a q 7), .i (turnI a q 8), .i (turnI a q 9), .i (turnI a q 10), .i (turnI a q 11), .i (turnI a q 12), .i (turnI a q 13), .i (turnI a q 14), .i (turnI a q 15), .i (turnE a)]
      rw [(turn_bad (q := q) hbad).2]
      simp only [(turn_bad (q := q) hbad).1]
    have g : (decide (a < 0) || decide (2 < a)) = false := g
    have hax : axis a := by simp only [Bool.or_eq_false_iff, decide_eq_false_iff_not] at g; unfold axis; omega
    clear g
    rcases (show a = 0 ∨ a = 1 ∨ a = 2 by unfold axis at hax; omega) with rfl | rfl | rfl
    · refine h_call (c := cUnit sg19) rfl trivial fun rs hk hr => ?_
      have hr : rs = [.i 65536, .i 0, .i 0, .i 0, .i 0, .i 65536, .i 0, .i 0, .i 0, .i 0, .i 65536, .i 0, .i 0, .i 0, .i 0, .i 65536] := hr
      subst hr
      refine h_call (c := cUnit sg19) rfl trivial fun rs hk hr => ?_
      have hr : rs = [.i 65536, .i 0, .i 0, .i 0, .i 0, .i 65536, .i 0, .i 0, .i 0, .i 0, .i 65536, .i 0, .i 0, .i 0, .i 0, .i 65536] := hr
      subst hr
      iterate 16 refine h_need rfl ?_
      have hn1 := quarters q
      refine h_loop (fun ds => ∃ i : Int, ds = [.i i, .i (((turnL 0 i).getD 0 0)), .i (((turnL 0 i).getD 1 0)), .i (((turnL 0 i).getD 2 0)), .i (((turnL 0 i).getD 3 0)), .i (((turnL 0 i).getD 4 0)), .i (((turnL 0 i).getD 5 0)), .i (((turnL 0 i).getD 6 0)), .i (((turnL 0 i).getD 7 0)), .i (((turnL 0 i).getD 8 0)), .i (((turnL 0 i).getD 9 0)), .i (((turnL 0 i).getD 10 0)), .i (((turnL 0 i).getD 11 0)), .i (((turnL 0 i).getD 12 0)), .i (((turnL 0 i).getD 13 0)), .i (((turnL 0 i).getD 14 0)), .i (((turnL 0 i).getD 15 0))] ∧ 0 ≤ i ∧ i ≤ q % 4) (fun | .i i :: _ => (q % 4 - i).toNat | _ => 0) ⟨0, by rfl, by omega, by omega⟩ ?_
      intro ds _ ⟨i, hds, hi1, hi2⟩
      subst hds
      refine h_need (by simp only [Env.sets, Env.set, BE.den, IE.den, DE.den, DV.int, DV.bool, DV.list, LOp.den, List.map_cons, List.map_nil, Nat.reduceEqDiff, ↓reduceIte, reduceCtorEq, Bool.and_eq_true, Bool.or_eq_true, Bool.not_eq_true', Bool.not_eq_false', Bool.and_eq_false_iff, Bool.or_eq_false_iff, decide_eq_true_eq, decide_eq_false_iff_not]; omega) ?_
      refine h_ite (fun g => ?_) (fun g => ?_)
      · simp only [Env.sets, Env.set, BE.den, IE.den, DE.den, DV.int, DV.bool, DV.list, LOp.den, List.map_cons, List.map_nil, Nat.reduceEqDiff, ↓reduceIte, reduceCtorEq, Bool.and_eq_true, Bool.or_eq_true, Bool.not_eq_true', Bool.not_eq_false', Bool.and_eq_false_iff, Bool.or_eq_false_iff, decide_eq_true_eq, decide_eq_false_iff_not] at g
        have hm := turn_mul (a := 0) (i := 1) (j := i) hax (by omega) (by omega)
        rw [show (1 + i) % 4 = i + 1 by omega] at hm
        refine h_call (c := cMul sg13) rfl trivial fun rs hk hr => ?_
        have hr : rs = [.i (mulI (turnL 0 1) (turnL 0 i) 0), .i (mulI (turnL 0 1) (turnL 0 i) 1), .i (mulI (turnL 0 1) (turnL 0 i) 2), .i (mulI (turnL 0 1) (turnL 0 i) 3), .i (mulI (turnL 0 1) (turnL 0 i) 4), .i (mulI (turnL 0 1) (turnL 0 i) 5), .i (mulI (turnL 0 1) (turnL 0 i) 6), .i (mulI (turnL 0 1) (turnL 0 i) 7), .i (mulI (turnL 0 1) (turnL 0 i) 8), .i (mulI (turnL 0 1) (turnL 0 i) 9), .i (mulI (turnL 0 1) (turnL 0 i) 10), .i (mulI (turnL 0 1) (turnL 0 i) 11), .i (mulI (turnL 0 1) (turnL 0 i) 12), .i (mulI (turnL 0 1) (turnL 0 i) 13), .i (mulI (turnL 0 1) (turnL 0 i) 14), .i (mulI (turnL 0 1) (turnL 0 i) 15), .i (mulE (turnL 0 1) (turnL 0 i))] := hr
        rw [hm.2] at hr
        simp only [hm.1] at hr
        subst hr
        refine h_need (by simp only [Env.sets, Env.set, BE.den, IE.den, DE.den, DV.int, DV.bool, DV.list, LOp.den, List.map_cons, List.map_nil, Nat.reduceEqDiff, ↓reduceIte, reduceCtorEq, Bool.and_eq_true, Bool.or_eq_true, Bool.not_eq_true', Bool.not_eq_false', Bool.and_eq_false_iff, Bool.or_eq_false_iff, decide_eq_true_eq, decide_eq_false_iff_not]; omega) ?_
        refine h_again ⟨⟨i + 1, by rfl, by omega, by omega⟩, ?_⟩
        show (q % 4 - (i + 1)).toNat < (q % 4 - i).toNat
        omega
      · simp only [Env.sets, Env.set, BE.den, IE.den, DE.den, DV.int, DV.bool, DV.list, LOp.den, List.map_cons, List.map_nil, Nat.reduceEqDiff, ↓reduceIte, reduceCtorEq, Bool.and_eq_true, Bool.or_eq_true, Bool.not_eq_true', Bool.not_eq_false', Bool.and_eq_false_iff, Bool.or_eq_false_iff, decide_eq_true_eq, decide_eq_false_iff_not] at g
        have hq : q % 4 = i := by omega
        show ([.i (((turnL 0 i).getD 0 0)), .i (((turnL 0 i).getD 1 0)), .i (((turnL 0 i).getD 2 0)), .i (((turnL 0 i).getD 3 0)), .i (((turnL 0 i).getD 4 0)), .i (((turnL 0 i).getD 5 0)), .i (((turnL 0 i).getD 6 0)), .i (((turnL 0 i).getD 7 0)), .i (((turnL 0 i).getD 8 0)), .i (((turnL 0 i).getD 9 0)), .i (((turnL 0 i).getD 10 0)), .i (((turnL 0 i).getD 11 0)), .i (((turnL 0 i).getD 12 0)), .i (((turnL 0 i).getD 13 0)), .i (((turnL 0 i).getD 14 0)), .i (((turnL 0 i).getD 15 0)), .i 0] : List DV) = [.i (turnI 0 q 0), .i (turnI 0 q 1), .i (turnI 0 q 2), .i (turnI 0 q 3), .i (turnI 0 q 4), .i (turnI 0 q 5), .i (turnI 0 q 6), .i (turnI 0 q 7), .i (turnI 0 q 8), .i (turnI 0 q 9), .i (turnI 0 q 10), .i (turnI 0 q 11), .i (turnI 0 q 12), .i (turnI 0 q 13), .i (turnI 0 q 14), .i (turnI 0 q 15), .i (turnE 0)]
        rw [(turn_ok (q := q) hax).2]
        simp only [(turn_ok (q := q) hax).1, hq]
    · refine h_call (c := cUnit sg19) rfl trivial fun rs hk hr => ?_
      have hr : rs = [.i 65536, .i 0, .i 0, .i 0, .i 0, .i 65536, .i 0, .i 0, .i 0, .i 0, .i 65536, .i 0, .i 0, .i 0, .i 0, .i 65536] := hr
      subst hr
      refine h_call (c := cUnit sg19) rfl trivial fun rs hk hr => ?_
      have hr : rs = [.i 65536, .i 0, .i 0, .i 0, .i 0, .i 65536, .i 0, .i 0, .i 0, .i 0, .i 65536, .i 0, .i 0, .i 0, .i 0, .i 65536] := hr
      subst hr
      iterate 16 refine h_need rfl ?_
      have hn1 := quarters q
      refine h_loop (fun ds => ∃ i : Int, ds = [.i i, .i (((turnL 1 i).getD 0 0)), .i (((turnL 1 i).getD 1 0)), .i (((turnL 1 i).getD 2 0)), .i (((turnL 1 i).getD 3 0)), .i (((turnL 1 i).getD 4 0)), .i (((turnL 1 i).getD 5 0)), .i (((turnL 1 i).getD 6 0)), .i (((turnL 1 i).getD 7 0)), .i (((turnL 1 i).getD 8 0)), .i (((turnL 1 i).getD 9 0)), .i (((turnL 1 i).getD 10 0)), .i (((turnL 1 i).getD 11 0)), .i (((turnL 1 i).getD 12 0)), .i (((turnL 1 i).getD 13 0)), .i (((turnL 1 i).getD 14 0)), .i (((turnL 1 i).getD 15 0))] ∧ 0 ≤ i ∧ i ≤ q % 4) (fun | .i i :: _ => (q % 4 - i).toNat | _ => 0) ⟨0, by rfl, by omega, by omega⟩ ?_
      intro ds _ ⟨i, hds, hi1, hi2⟩
      subst hds
      refine h_need (by simp only [Env.sets, Env.set, BE.den, IE.den, DE.den, DV.int, DV.bool, DV.list, LOp.den, List.map_cons, List.map_nil, Nat.reduceEqDiff, ↓reduceIte, reduceCtorEq, Bool.and_eq_true, Bool.or_eq_true, Bool.not_eq_true', Bool.not_eq_false', Bool.and_eq_false_iff, Bool.or_eq_false_iff, decide_eq_true_eq, decide_eq_false_iff_not]; omega) ?_
      refine h_ite (fun g => ?_) (fun g => ?_)
      · simp only [Env.sets, Env.set, BE.den, IE.den, DE.den, DV.int, DV.bool, DV.list, LOp.den, List.map_cons, List.map_nil, Nat.reduceEqDiff, ↓reduceIte, reduceCtorEq, Bool.and_eq_true, Bool.or_eq_true, Bool.not_eq_true', Bool.not_eq_false', Bool.and_eq_false_iff, Bool.or_eq_false_iff, decide_eq_true_eq, decide_eq_false_iff_not] at g
        have hm := turn_mul (a := 1) (i := 1) (j := i) hax (by omega) (by omega)
        rw [show (1 + i) % 4 = i + 1 by omega] at hm
        refine h_call (c := cMul sg13) rfl trivial fun rs hk hr => ?_
        have hr : rs = [.i (mulI (turnL 1 1) (turnL 1 i) 0), .i (mulI (turnL 1 1) (turnL 1 i) 1), .i (mulI (turnL 1 1) (turnL 1 i) 2), .i (mulI (turnL 1 1) (turnL 1 i) 3), .i (mulI (turnL 1 1) (turnL 1 i) 4), .i (mulI (turnL 1 1) (turnL 1 i) 5), .i (mulI (turnL 1 1) (turnL 1 i) 6), .i (mulI (turnL 1 1) (turnL 1 i) 7), .i (mulI (turnL 1 1) (turnL 1 i) 8), .i (mulI (turnL 1 1) (turnL 1 i) 9), .i (mulI (turnL 1 1) (turnL 1 i) 10), .i (mulI (turnL 1 1) (turnL 1 i) 11), .i (mulI (turnL 1 1) (turnL 1 i) 12), .i (mulI (turnL 1 1) (turnL 1 i) 13), .i (mulI (turnL 1 1) (turnL 1 i) 14), .i (mulI (turnL 1 1) (turnL 1 i) 15), .i (mulE (turnL 1 1) (turnL 1 i))] := hr
        rw [hm.2] at hr
        simp only [hm.1] at hr
        subst hr
        refine h_need (by simp only [Env.sets, Env.set, BE.den, IE.den, DE.den, DV.int, DV.bool, DV.list, LOp.den, List.map_cons, List.map_nil, Nat.reduceEqDiff, ↓reduceIte, reduceCtorEq, Bool.and_eq_true, Bool.or_eq_true, Bool.not_eq_true', Bool.not_eq_false', Bool.and_eq_false_iff, Bool.or_eq_false_iff, decide_eq_true_eq, decide_eq_false_iff_not]; omega) ?_
        refine h_again ⟨⟨i + 1, by rfl, by omega, by omega⟩, ?_⟩
        show (q % 4 - (i + 1)).toNat < (q % 4 - i).toNat
        omega
      · simp only [Env.sets, Env.set, BE.den, IE.den, DE.den, DV.int, DV.bool, DV.list, LOp.den, List.map_cons, List.map_nil, Nat.reduceEqDiff, ↓reduceIte, reduceCtorEq, Bool.and_eq_true, Bool.or_eq_true, Bool.not_eq_true', Bool.not_eq_false', Bool.and_eq_false_iff, Bool.or_eq_false_iff, decide_eq_true_eq, decide_eq_false_iff_not] at g
        have hq : q % 4 = i := by omega
        show ([.i (((turnL 1 i).getD 0 0)), .i (((turnL 1 i).getD 1 0)), .i (((turnL 1 i).getD 2 0)), .i (((turnL 1 i).getD 3 0)), .i (((turnL 1 i).getD 4 0)), .i (((turnL 1 i).getD 5 0)), .i (((turnL 1 i).getD 6 0)), .i (((turnL 1 i).getD 7 0)), .i (((turnL 1 i).getD 8 0)), .i (((turnL 1 i).getD 9 0)), .i (((turnL 1 i).getD 10 0)), .i (((turnL 1 i).getD 11 0)), .i (((turnL 1 i).getD 12 0)), .i (((turnL 1 i).getD 13 0)), .i (((turnL 1 i).getD 14 0)), .i (((turnL 1 i).getD 15 0)), .i 0] : List DV) = [.i (turnI 1 q 0), .i (turnI 1 q 1), .i (turnI 1 q 2), .i (turnI 1 q 3), .i (turnI 1 q 4), .i (turnI 1 q 5), .i (turnI 1 q 6), .i (turnI 1 q 7), .i (turnI 1 q 8), .i (turnI 1 q 9), .i (turnI 1 q 10), .i (turnI 1 q 11), .i (turnI 1 q 12), .i (turnI 1 q 13), .i (turnI 1 q 14), .i (turnI 1 q 15), .i (turnE 1)]
        rw [(turn_ok (q := q) hax).2]
        simp only [(turn_ok (q := q) hax).1, hq]
    · refine h_call (c := cUnit sg19) rfl trivial fun rs hk hr => ?_
      have hr : rs = [.i 65536, .i 0, .i 0, .i 0, .i 0, .i 65536, .i 0, .i 0, .i 0, .i 0, .i 65536, .i 0, .i 0, .i 0, .i 0, .i 65536] := hr
      subst hr
      refine h_call (c := cUnit sg19) rfl trivial fun rs hk hr => ?_
      have hr : rs = [.i 65536, .i 0, .i 0, .i 0, .i 0, .i 65536, .i 0, .i 0, .i 0, .i 0, .i 65536, .i 0, .i 0, .i 0, .i 0, .i 65536] := hr
      subst hr
      iterate 16 refine h_need rfl ?_
      have hn1 := quarters q
      refine h_loop (fun ds => ∃ i : Int, ds = [.i i, .i (((turnL 2 i).getD 0 0)), .i (((turnL 2 i).getD 1 0)), .i (((turnL 2 i).getD 2 0)), .i (((turnL 2 i).getD 3 0)), .i (((turnL 2 i).getD 4 0)), .i (((turnL 2 i).getD 5 0)), .i (((turnL 2 i).getD 6 0)), .i (((turnL 2 i).getD 7 0)), .i (((turnL 2 i).getD 8 0)), .i (((turnL 2 i).getD 9 0)), .i (((turnL 2 i).getD 10 0)), .i (((turnL 2 i).getD 11 0)), .i (((turnL 2 i).getD 12 0)), .i (((turnL 2 i).getD 13 0)), .i (((turnL 2 i).getD 14 0)), .i (((turnL 2 i).getD 15 0))] ∧ 0 ≤ i ∧ i ≤ q % 4) (fun | .i i :: _ => (q % 4 - i).toNat | _ => 0) ⟨0, by rfl, by omega, by omega⟩ ?_
      intro ds _ ⟨i, hds, hi1, hi2⟩
      subst hds
      refine h_need (by simp only [Env.sets, Env.set, BE.den, IE.den, DE.den, DV.int, DV.bool, DV.list, LOp.den, List.map_cons, List.map_nil, Nat.reduceEqDiff, ↓reduceIte, reduceCtorEq, Bool.and_eq_true, Bool.or_eq_true, Bool.not_eq_true', Bool.not_eq_false', Bool.and_eq_false_iff, Bool.or_eq_false_iff, decide_eq_true_eq, decide_eq_false_iff_not]; omega) ?_
      refine h_ite (fun g => ?_) (fun g => ?_)
      · simp only [Env.sets, Env.set, BE.den, IE.den, DE.den, DV.int, DV.bool, DV.list, LOp.den, List.map_cons, List.map_nil, Nat.reduceEqDiff, ↓reduceIte, reduceCtorEq, Bool.and_eq_true, Bool.or_eq_true, Bool.not_eq_true', Bool.not_eq_false', Bool.and_eq_false_iff, Bool.or_eq_false_iff, decide_eq_true_eq, decide_eq_false_iff_not] at g
        have hm := turn_mul (a := 2) (i := 1) (j := i) hax (by omega) (by omega)
        rw [show (1 + i) % 4 = i + 1 by omega] at hm
        refine h_call (c := cMul sg13) rfl trivial fun rs hk hr => ?_
        have hr : rs = [.i (mulI (turnL 2 1) (turnL 2 i) 0), .i (mulI (turnL 2 1) (turnL 2 i) 1), .i (mulI (turnL 2 1) (turnL 2 i) 2), .i (mulI (turnL 2 1) (turnL 2 i) 3), .i (mulI (turnL 2 1) (turnL 2 i) 4), .i (mulI (turnL 2 1) (turnL 2 i) 5), .i (mulI (turnL 2 1) (turnL 2 i) 6), .i (mulI (turnL 2 1) (turnL 2 i) 7), .i (mulI (turnL 2 1) (turnL 2 i) 8), .i (mulI (turnL 2 1) (turnL 2 i) 9), .i (mulI (turnL 2 1) (turnL 2 i) 10), .i (mulI (turnL 2 1) (turnL 2 i) 11), .i (mulI (turnL 2 1) (turnL 2 i) 12), .i (mulI (turnL 2 1) (turnL 2 i) 13), .i (mulI (turnL 2 1) (turnL 2 i) 14), .i (mulI (turnL 2 1) (turnL 2 i) 15), .i (mulE (turnL 2 1) (turnL 2 i))] := hr
        rw [hm.2] at hr
        simp only [hm.1] at hr
        subst hr
        refine h_need (by simp only [Env.sets, Env.set, BE.den, IE.den, DE.den, DV.int, DV.bool, DV.list, LOp.den, List.map_cons, List.map_nil, Nat.reduceEqDiff, ↓reduceIte, reduceCtorEq, Bool.and_eq_true, Bool.or_eq_true, Bool.not_eq_true', Bool.not_eq_false', Bool.and_eq_false_iff, Bool.or_eq_false_iff, decide_eq_true_eq, decide_eq_false_iff_not]; omega) ?_
        refine h_again ⟨⟨i + 1, by rfl, by omega, by omega⟩, ?_⟩
        show (q % 4 - (i + 1)).toNat < (q % 4 - i).toNat
        omega
      · simp only [Env.sets, Env.set, BE.den, IE.den, DE.den, DV.int, DV.bool, DV.list, LOp.den, List.map_cons, List.map_nil, Nat.reduceEqDiff, ↓reduceIte, reduceCtorEq, Bool.and_eq_true, Bool.or_eq_true, Bool.not_eq_true', Bool.not_eq_false', Bool.and_eq_false_iff, Bool.or_eq_false_iff, decide_eq_true_eq, decide_eq_false_iff_not] at g
        have hq : q % 4 = i := by omega
        show ([.i (((turnL 2 i).getD 0 0)), .i (((turnL 2 i).getD 1 0)), .i (((turnL 2 i).getD 2 0)), .i (((turnL 2 i).getD 3 0)), .i (((turnL 2 i).getD 4 0)), .i (((turnL 2 i).getD 5 0)), .i (((turnL 2 i).getD 6 0)), .i (((turnL 2 i).getD 7 0)), .i (((turnL 2 i).getD 8 0)), .i (((turnL 2 i).getD 9 0)), .i (((turnL 2 i).getD 10 0)), .i (((turnL 2 i).getD 11 0)), .i (((turnL 2 i).getD 12 0)), .i (((turnL 2 i).getD 13 0)), .i (((turnL 2 i).getD 14 0)), .i (((turnL 2 i).getD 15 0)), .i 0] : List DV) = [.i (turnI 2 q 0), .i (turnI 2 q 1), .i (turnI 2 q 2), .i (turnI 2 q 3), .i (turnI 2 q 4), .i (turnI 2 q 5), .i (turnI 2 q 6), .i (turnI 2 q 7), .i (turnI 2 q 8), .i (turnI 2 q 9), .i (turnI 2 q 10), .i (turnI 2 q 11), .i (turnI 2 q 12), .i (turnI 2 q 13), .i (turnI 2 q 14), .i (turnI 2 q 15), .i (turnE 2)]
        rw [(turn_ok (q := q) hax).2]
        simp only [(turn_ok (q := q) hax).1, hq]
  · cases hp
theorem ok21 : ContractOk Try.prog 21 (cMove sg21) := by
  refine contract_of (Γ := knownOf [(18, cUnit sg18), (24, c24)]) (known_cons ok18 rfl (known_cons ok24 rfl known_nil)) Try.func21 rfl rfl is21 fun ds hk hp => ?_
  split at hp
  · skip
    rename_i x y z
    refine h_call (c := cUnit sg18) rfl trivial fun rs hk hr => ?_
    have hr : rs = [.i 65536, .i 0, .i 0, .i 0, .i 0, .i 65536, .i 0, .i 0, .i 0, .i 0, .i 65536, .i 0, .i 0, .i 0, .i 0, .i 65536] := hr
    subst hr
    refine h_call (c := c24) rfl (show bigP 4096 by unfold bigP; omega) fun rs hk hr => ?_
    have hr : rs = [.b (decide (4096 < x ∨ x < -4096))] := hr
    subst hr
    refine h_ite (fun g => ?_) (fun g => ?_)
    · have g := of_decide_eq_true (p := 4096 < x ∨ x < -4096) g
      have hbad : ¬ moveOk x y z := by unfold moveOk; omega
      show ([.i 0, .i 0, .i 0, .i 0, .i 0, .i 0, .i 0, .i 0, .i 0, .i 0, .i 0, .i 0, .i 0, .i 0, .i 0, .i 0, .i 4] : List DV) = [.i (moveI x y z 0), .i (moveI x y z 1), .i (moveI x y z 2), .i (moveI x y z 3), .i (moveI x y z 4), .i (moveI x y z 5), .i (moveI x y z 6), .i (moveI x y z 7), .i (moveI x y z 8), .i (moveI x y z 9), .i (moveI x y z 10), .i (moveI x y z 11), .i (moveI x y z 12), .i (moveI x y z 13), .i (moveI x y z 14), .i (moveI x y z 15), .i (moveE x y z)]
      rw [(move_bad hbad).2]
      simp only [(move_bad hbad).1]
    have hx := of_decide_eq_false (p := 4096 < x ∨ x < -4096) g
    clear g
    refine h_needR (x * 65536) rfl (by unfold ok64; omega) ?_
    refine h_call (c := c24) rfl (show bigP 4096 by unfold bigP; omega) fun rs hk hr => ?_
    have hr : rs = [.b (decide (4096 < y ∨ y < -4096))] := hr
    subst hr
    refine h_ite (fun g => ?_) (fun g => ?_)
    · have g := of_decide_eq_true (p := 4096 < y ∨ y < -4096) g
      have hbad : ¬ moveOk x y z := by unfold moveOk; omega
      show ([.i 0, .i 0, .i 0, .i 0, .i 0, .i 0, .i 0, .i 0, .i 0, .i 0, .i 0, .i 0, .i 0, .i 0, .i 0, .i 0, .i 4] : List DV) = [.i (moveI x y z 0), .i (moveI x y z 1), .i (moveI x y z 2), .i (moveI x y z 3), .i (moveI x y z 4), .i (moveI x y z 5), .i (moveI x y z 6), .i (moveI x y z 7), .i (moveI x y z 8), .i (moveI x y z 9), .i (moveI x y z 10), .i (moveI x y z 11), .i (moveI x y z 12), .i (moveI x y z 13), .i (moveI x y z 14), .i (moveI x y z 15), .i (moveE x y z)]
      rw [(move_bad hbad).2]
      simp only [(move_bad hbad).1]
    have hy := of_decide_eq_false (p := 4096 < y ∨ y < -4096) g
    clear g
    refine h_needR (y * 65536) rfl (by unfold ok64; omega) ?_
    refine h_call (c := c24) rfl (show bigP 4096 by unfold bigP; omega) fun rs hk hr => ?_
    have hr : rs = [.b (decide (4096 < z ∨ z < -4096))] := hr
    subst hr
    refine h_ite (fun g => ?_) (fun g => ?_)
    · have g := of_decide_eq_true (p := 4096 < z ∨ z < -4096) g
      have hbad : ¬ moveOk x y z := by unfold moveOk; omega
      show ([.i 0, .i 0, .i 0, .i 0, .i 0, .i 0, .i 0, .i 0, .i 0, .i 0, .i 0, .i 0, .i 0, .i 0, .i 0, .i 0, .i 4] : List DV) = [.i (moveI x y z 0), .i (moveI x y z 1), .i (moveI x y z 2), .i (moveI x y z 3), .i (moveI x y z 4), .i (moveI x y z 5), .i (moveI x y z 6), .i (moveI x y z 7), .i (moveI x y z 8), .i (moveI x y z 9), .i (moveI x y z 10), .i (moveI x y z 11), .i (moveI x y z 12), .i (moveI x y z 13), .i (moveI x y z 14), .i (moveI x y z 15), .i (moveE x y z)]
      rw [(move_bad hbad).2]
      simp only [(move_bad hbad).1]
    have hz := of_decide_eq_false (p := 4096 < z ∨ z < -4096) g
    clear g
    refine h_needR (z * 65536) rfl (by unfold ok64; omega) ?_
    have hok : moveOk x y z := by unfold moveOk; omega
    show ([.i (((moveL x y z).getD 0 0)), .i (((moveL x y z).getD 1 0)), .i (((moveL x y z).getD 2 0)), .i (((moveL x y z).getD 3 0)), .i (((moveL x y z).getD 4 0)), .i (((moveL x y z).getD 5 0)), .i (((moveL x y z).getD 6 0)), .i (((moveL x y z).getD 7 0)), .i (((moveL x y z).getD 8 0)), .i (((moveL x y z).getD 9 0)), .i (((moveL x y z).getD 10 0)), .i (((moveL x y z).getD 11 0)), .i (((moveL x y z).getD 12 0)), .i (((moveL x y z).getD 13 0)), .i (((moveL x y z).getD 14 0)), .i (((moveL x y z).getD 15 0)), .i 0] : List DV) = [.i (moveI x y z 0), .i (moveI x y z 1), .i (moveI x y z 2), .i (moveI x y z 3), .i (moveI x y z 4), .i (moveI x y z 5), .i (moveI x y z 6), .i (moveI x y z 7), .i (moveI x y z 8), .i (moveI x y z 9), .i (moveI x y z 10), .i (moveI x y z 11), .i (moveI x y z 12), .i (moveI x y z 13), .i (moveI x y z 14), .i (moveI x y z 15), .i (moveE x y z)]
    rw [(move_ok hok).2]
    simp only [(move_ok hok).1]
  · cases hp
theorem ok22 : ContractOk Try.prog 22 (cMove sg22) := by
  refine contract_of (Γ := knownOf [(19, cUnit sg19), (26, c26)]) (known_cons ok19 rfl (known_cons ok26 rfl known_nil)) Try.func22 rfl rfl is22 fun ds hk hp => ?_
  split at hp
  · skip
    rename_i x y z
    refine h_call (c := c26) rfl (show bigP 4096 by unfold bigP; omega) fun rs hk hr => ?_
    have hr : rs = [.b (decide (-4096 ≤ x ∧ x ≤ 4096))] := hr
    subst hr
    refine h_callg (c := c26) rfl (fun _ => show bigP 4096 by unfold bigP; omega) fun rs hk hr1 => ?_
    obtain ⟨i1, rfl⟩ := kinds1b hk
    have hr1 : decide (-4096 ≤ x ∧ x ≤ 4096) = true → [DV.b i1] = [DV.b (decide (-4096 ≤ y ∧ y ≤ 4096))] := hr1
    refine h_callg (c := c26) rfl (fun _ => show bigP 4096 by unfold bigP; omega) fun rs hk hr2 => ?_
    obtain ⟨i2, rfl⟩ := kinds1b hk
    have hr2 : (!(!decide (-4096 ≤ x ∧ x ≤ 4096) || !i1)) = true → [DV.b i2] = [DV.b (decide (-4096 ≤ z ∧ z ≤ 4096))] := hr2
    refine h_ite (fun g => ?_) (fun g => ?_)
    · have g : ((!decide (-4096 ≤ x ∧ x ≤ 4096) || !i1) || !i2) = true := g
      have hbad : ¬ moveOk x y z := fun ⟨hx, hy, hz⟩ => by
        have e1 := b_of (hr1 (decide_eq_true hx))
        rw [decide_eq_true hy] at e1
        subst e1
        have e2 := b_of (hr2 (by simp [hx]))
        rw [decide_eq_true hz] at e2
        subst e2
        simp [hx] at g
      show ([.i 0, .i 0, .i 0, .i 0, .i 0, .i 0, .i 0, .i 0, .i 0, .i 0, .i 0, .i 0, .i 0, .i 0, .i 0, .i 0, .i 4] : List DV) = [.i (moveI x y z 0), .i (moveI x y z 1), .i (moveI x y z 2), .i (moveI x y z 3), .i (moveI x y z 4), .i (moveI x y z 5), .i (moveI x y z 6), .i (moveI x y z 7), .i (moveI x y z 8), .i (moveI x y z 9), .i (moveI x y z 10), .i (moveI x y z 11), .i (moveI x y z 12), .i (moveI x y z 13), .i (moveI x y z 14), .i (moveI x y z 15), .i (moveE x y z)]
      rw [(move_bad hbad).2]
      simp only [(move_bad hbad).1]
    have g : ((!decide (-4096 ≤ x ∧ x ≤ 4096) || !i1) || !i2) = false := g
    simp only [Bool.or_eq_false_iff, Bool.not_eq_false', decide_eq_true_eq] at g
    obtain ⟨⟨hx, rfl⟩, rfl⟩ := g
    have hy := of_decide_eq_true (b_of (hr1 (decide_eq_true hx))).symm
    have hz := of_decide_eq_true (b_of (hr2 (by simp [hx]))).symm
    clear hr1 hr2
    refine h_call (c := cUnit sg19) rfl trivial fun rs hk hr => ?_
    have hr : rs = [.i 65536, .i 0, .i 0, .i 0, .i 0, .i 65536, .i 0, .i 0, .i 0, .i 0, .i 65536, .i 0, .i 0, .i 0, .i 0, .i 65536] := hr
    subst hr
    refine h_needR (x * 65536) rfl (by unfold ok64; omega) ?_
    refine h_needR (y * 65536) rfl (by unfold ok64; omega) ?_
    refine h_needR (z * 65536) rfl (by unfold ok64; omega) ?_
    have hok : moveOk x y z := by unfold moveOk; omega
    show ([.i (((moveL x y z).getD 0 0)), .i (((moveL x y z).getD 1 0)), .i (((moveL x y z).getD 2 0)), .i (((moveL x y z).getD 3 0)), .i (((moveL x y z).getD 4 0)), .i (((moveL x y z).getD 5 0)), .i (((moveL x y z).getD 6 0)), .i (((moveL x y z).getD 7 0)), .i (((moveL x y z).getD 8 0)), .i (((moveL x y z).getD 9 0)), .i (((moveL x y z).getD 10 0)), .i (((moveL x y z).getD 11 0)), .i (((moveL x y z).getD 12 0)), .i (((moveL x y z).getD 13 0)), .i (((moveL x y z).getD 14 0)), .i (((moveL x y z).getD 15 0)), .i 0] : List DV) = [.i (moveI x y z 0), .i (moveI x y z 1), .i (moveI x y z 2), .i (moveI x y z 3), .i (moveI x y z 4), .i (moveI x y z 5), .i (moveI x y z 6), .i (moveI x y z 7), .i (moveI x y z 8), .i (moveI x y z 9), .i (moveI x y z 10), .i (moveI x y z 11), .i (moveI x y z 12), .i (moveI x y z 13), .i (moveI x y z 14), .i (moveI x y z 15), .i (moveE x y z)]
    rw [(move_ok hok).2]
    simp only [(move_ok hok).1]
  · cases hp
theorem aw_turn : [turnI 2 1 0, turnI 2 1 1, turnI 2 1 2, turnI 2 1 3, turnI 2 1 4, turnI 2 1 5, turnI 2 1 6, turnI 2 1 7, turnI 2 1 8, turnI 2 1 9, turnI 2 1 10, turnI 2 1 11, turnI 2 1 12, turnI 2 1 13, turnI 2 1 14, turnI 2 1 15, turnE 2] = [0, -65536, 0, 0, 65536, 0, 0, 0, 0, 0, 65536, 0, 0, 0, 0, 65536, 0] := by decide +kernel
theorem aw_app : [appI ([0, -65536, 0, 0, 65536, 0, 0, 0, 0, 0, 65536, 0, 0, 0, 0, 65536] : List Int) ([65536, 0, 0, 65536] : List Int) 68719476736 0, appI ([0, -65536, 0, 0, 65536, 0, 0, 0, 0, 0, 65536, 0, 0, 0, 0, 65536] : List Int) ([65536, 0, 0, 65536] : List Int) 68719476736 1, appI ([0, -65536, 0, 0, 65536, 0, 0, 0, 0, 0, 65536, 0, 0, 0, 0, 65536] : List Int) ([65536, 0, 0, 65536] : List Int) 68719476736 2, appI ([0, -65536, 0, 0, 65536, 0, 0, 0, 0, 0, 65536, 0, 0, 0, 0, 65536] : List Int) ([65536, 0, 0, 65536] : List Int) 68719476736 3, appE ([0, -65536, 0, 0, 65536, 0, 0, 0, 0, 0, 65536, 0, 0, 0, 0, 65536] : List Int) ([65536, 0, 0, 65536] : List Int) 68719476736] = [0, 65536, 0, 65536, 0] := by decide +kernel
theorem aw_mul : [mulI ([65536, 0, 0, 0, 0, 65536, 0, 0, 0, 0, 65536, 0, 0, 0, 0, 65536] : List Int) ([65536, 0, 0, 0, 0, 65536, 0, 0, 0, 0, 65536, 0, 0, 0, 0, 65536] : List Int) 0, mulI ([65536, 0, 0, 0, 0, 65536, 0, 0, 0, 0, 65536, 0, 0, 0, 0, 65536] : List Int) ([65536, 0, 0, 0, 0, 65536, 0, 0, 0, 0, 65536, 0, 0, 0, 0, 65536] : List Int) 1, mulI ([65536, 0, 0, 0, 0, 65536, 0, 0, 0, 0, 65536, 0, 0, 0, 0, 65536] : List Int) ([65536, 0, 0, 0, 0, 65536, 0, 0, 0, 0, 65536, 0, 0, 0, 0, 65536] : List Int) 2, mulI ([65536, 0, 0, 0, 0, 65536, 0, 0, 0, 0, 65536, 0, 0, 0, 0, 65536] : List Int) ([65536, 0, 0, 0, 0, 65536, 0, 0, 0, 0, 65536, 0, 0, 0, 0, 65536] : List Int) 3, mulI ([65536, 0, 0, 0, 0, 65536, 0, 0, 0, 0, 65536, 0, 0, 0, 0, 65536] : List Int) ([65536, 0, 0, 0, 0, 65536, 0, 0, 0, 0, 65536, 0, 0, 0, 0, 65536] : List Int) 4, mulI ([65536, 0, 0, 0, 0, 65536, 0, 0, 0, 0, 65536, 0, 0, 0, 0, 65536] : List Int) ([65536, 0, 0, 0, 0, 65536, 0, 0, 0, 0, 65536, 0, 0, 0, 0, 65536] : List Int) 5, mulI ([65536, 0, 0, 0, 0, 65536, 0, 0, 0, 0, 65536, 0, 0, 0, 0, 65536] : List Int) ([65536, 0, 0, 0, 0, 65536, 0, 0, 0, 0, 65536, 0, 0, 0, 0, 65536] : List Int) 6, mulI ([65536, 0, 0, 0, 0, 65536, 0, 0, 0, 0, 65536, 0, 0, 0, 0, 65536] : List Int) ([65536, 0, 0, 0, 0, 65536, 0, 0, 0, 0, 65536, 0, 0, 0, 0, 65536] : List Int) 7, mulI ([65536, 0, 0, 0, 0, 65536, 0, 0, 0, 0, 65536, 0, 0, 0, 0, 65536] : List Int) ([65536, 0, 0, 0, 0, 65536, 0, 0, 0, 0, 65536, 0, 0, 0, 0, 65536] : List Int) 8, mulI ([65536, 0, 0, 0, 0, 65536, 0, 0, 0, 0, 65536, 0, 0, 0, 0, 65536] : List Int) ([65536, 0, 0, 0, 0, 65536, 0, 0, 0, 0, 65536, 0, 0, 0, 0, 65536] : List Int) 9, mulI ([65536, 0, 0, 0, 0, 65536, 0, 0, 0, 0, 65536, 0, 0, 0, 0, 65536] : List Int) ([65536, 0, 0, 0, 0, 65536, 0, 0, 0, 0, 65536, 0, 0, 0, 0, 65536] : List Int) 10, mulI ([65536, 0, 0, 0, 0, 65536, 0, 0, 0, 0, 65536, 0, 0, 0, 0, 65536] : List Int) ([65536, 0, 0, 0, 0, 65536, 0, 0, 0, 0, 65536, 0, 0, 0, 0, 65536] : List Int) 11, mulI ([65536, 0, 0, 0, 0, 65536, 0, 0, 0, 0, 65536, 0, 0, 0, 0, 65536] : List Int) ([65536, 0, 0, 0, 0, 65536, 0, 0, 0, 0, 65536, 0, 0, 0, 0, 65536] : List Int) 12, mulI ([65536, 0, 0, 0, 0, 65536, 0, 0, 0, 0, 65536, 0, 0, 0, 0, 65536] : List Int) ([65536, 0, 0, 0, 0, 65536, 0, 0, 0, 0, 65536, 0, 0, 0, 0, 65536] : List Int) 13, mulI ([65536, 0, 0, 0, 0, 65536, 0, 0, 0, 0, 65536, 0, 0, 0, 0, 65536] : List Int) ([65536, 0, 0, 0, 0, 65536, 0, 0, 0, 0, 65536, 0, 0, 0, 0, 65536] : List Int) 14, mulI ([65536, 0, 0, 0, 0, 65536, 0, 0, 0, 0, 65536, 0, 0, 0, 0, 65536] : List Int) ([65536, 0, 0, 0, 0, 65536, 0, 0, 0, 0, 65536, 0, 0, 0, 0, 65536] : List Int) 15, mulE ([65536, 0, 0, 0, 0, 65536, 0, 0, 0, 0, 65536, 0, 0, 0, 0, 65536] : List Int) ([65536, 0, 0, 0, 0, 65536, 0, 0, 0, 0, 65536, 0, 0, 0, 0, 65536] : List Int)] = [65536, 0, 0, 0, 0, 65536, 0, 0, 0, 0, 65536, 0, 0, 0, 0, 65536, 0] := by decide +kernel
theorem aw_right : decide (rightP ([65536, 0, 0, 0, 0, 65536, 0, 0, 0, 0, 65536, 0, 0, 0, 0, 65536] : List Int)) = true := by decide +kernel
def c11 : Contract := CFn sg11 (fun | [] => True | _ => False) (fun | [] => [.b true] | _ => [])
theorem ok11 : ContractOk Try.prog 11 c11 := by
  refine contract_of (Γ := knownOf [(20, cTurn sg20), (9, cApply sg9), (18, cUnit sg18), (12, cMul sg12), (19, cUnit sg19), (14, cRight sg14)]) (known_cons ok20 rfl (known_cons ok9 rfl (known_cons ok18 rfl (known_cons ok12 rfl (known_cons ok19 rfl (known_cons ok14 rfl known_nil)))))) Try.func11 rfl rfl is11 fun ds hk hp => ?_
  split at hp
  · skip
    refine h_call (c := cTurn sg20) rfl trivial fun rs hk hr => ?_
    have hr : rs = List.map DV.i [turnI 2 1 0, turnI 2 1 1, turnI 2 1 2, turnI 2 1 3, turnI 2 1 4, turnI 2 1 5, turnI 2 1 6, turnI 2 1 7, turnI 2 1 8, turnI 2 1 9, turnI 2 1 10, turnI 2 1 11, turnI 2 1 12, turnI 2 1 13, turnI 2 1 14, turnI 2 1 15, turnE 2] := hr
    rw [aw_turn] at hr
    subst hr
    refine h_call (c := cApply sg9) rfl trivial fun rs hk hr => ?_
    have hr : rs = List.map DV.i [appI ([0, -65536, 0, 0, 65536, 0, 0, 0, 0, 0, 65536, 0, 0, 0, 0, 65536] : List Int) ([65536, 0, 0, 65536] : List Int) 68719476736 0, appI ([0, -65536, 0, 0, 65536, 0, 0, 0, 0, 0, 65536, 0, 0, 0, 0, 65536] : List Int) ([65536, 0, 0, 65536] : List Int) 68719476736 1, appI ([0, -65536, 0, 0, 65536, 0, 0, 0, 0, 0, 65536, 0, 0, 0, 0, 65536] : List Int) ([65536, 0, 0, 65536] : List Int) 68719476736 2, appI ([0, -65536, 0, 0, 65536, 0, 0, 0, 0, 0, 65536, 0, 0, 0, 0, 65536] : List Int) ([65536, 0, 0, 65536] : List Int) 68719476736 3, appE ([0, -65536, 0, 0, 65536, 0, 0, 0, 0, 0, 65536, 0, 0, 0, 0, 65536] : List Int) ([65536, 0, 0, 65536] : List Int) 68719476736] := hr
    rw [aw_app] at hr
    subst hr
    refine h_call (c := cUnit sg18) rfl trivial fun rs hk hr => ?_
    have hr : rs = [.i 65536, .i 0, .i 0, .i 0, .i 0, .i 65536, .i 0, .i 0, .i 0, .i 0, .i 65536, .i 0, .i 0, .i 0, .i 0, .i 65536] := hr
    subst hr
    refine h_call (c := cUnit sg18) rfl trivial fun rs hk hr => ?_
    have hr : rs = [.i 65536, .i 0, .i 0, .i 0, .i 0, .i 65536, .i 0, .i 0, .i 0, .i 0, .i 65536, .i 0, .i 0, .i 0, .i 0, .i 65536] := hr
    subst hr
    refine h_call (c := cMul sg12) rfl trivial fun rs hk hr => ?_
    have hr : rs = List.map DV.i [mulI ([65536, 0, 0, 0, 0, 65536, 0, 0, 0, 0, 65536, 0, 0, 0, 0, 65536] : List Int) ([65536, 0, 0, 0, 0, 65536, 0, 0, 0, 0, 65536, 0, 0, 0, 0, 65536] : List Int) 0, mulI ([65536, 0, 0, 0, 0, 65536, 0, 0, 0, 0, 65536, 0, 0, 0, 0, 65536] : List Int) ([65536, 0, 0, 0, 0, 65536, 0, 0, 0, 0, 65536, 0, 0, 0, 0, 65536] : List Int) 1, mulI ([65536, 0, 0, 0, 0, 65536, 0, 0, 0, 0, 65536, 0, 0, 0, 0, 65536] : List Int) ([65536, 0, 0, 0, 0, 65536, 0, 0, 0, 0, 65536, 0, 0, 0, 0, 65536] : List Int) 2, mulI ([65536, 0, 0, 0, 0, 65536, 0, 0, 0, 0, 65536, 0, 0, 0, 0, 65536] : List Int) ([65536, 0, 0, 0, 0, 65536, 0, 0, 0, 0, 65536, 0, 0, 0, 0, 65536] : List Int) 3, mulI ([65536, 0, 0, 0, 0, 65536, 0, 0, 0, 0, 65536, 0, 0, 0, 0, 65536] : List Int) ([65536, 0, 0, 0, 0, 65536, 0, 0, 0, 0, 65536, 0, 0, 0, 0, 65536] : List Int) 4, mulI ([65536, 0, 0, 0, 0, 65536, 0, 0, 0, 0, 65536, 0, 0, 0, 0, 65536] : List Int) ([65536, 0, 0, 0, 0, 65536, 0, 0, 0, 0, 65536, 0, 0, 0, 0, 65536] : List Int) 5, mulI ([65536, 0, 0, 0, 0, 65536, 0, 0, 0, 0, 65536, 0, 0, 0, 0, 65536] : List Int) ([65536, 0, 0, 0, 0, 65536, 0, 0, 0, 0, 65536, 0, 0, 0, 0, 65536] : List Int) 6, mulI ([65536, 0, 0, 0, 0, 65536, 0, 0, 0, 0, 65536, 0, 0, 0, 0, 65536] : List Int) ([65536, 0, 0, 0, 0, 65536, 0, 0, 0, 0, 65536, 0, 0, 0, 0, 65536] : List Int) 7, mulI ([65536, 0, 0, 0, 0, 65536, 0, 0, 0, 0, 65536, 0, 0, 0, 0, 65536] : List Int) ([65536, 0, 0, 0, 0, 65536, 0, 0, 0, 0, 65536, 0, 0, 0, 0, 65536] : List Int) 8, mulI ([65536, 0, 0, 0, 0, 65536, 0, 0, 0, 0, 65536, 0, 0, 0, 0, 65536] : List Int) ([65536, 0, 0, 0, 0, 65536, 0, 0, 0, 0, 65536, 0, 0, 0, 0, 65536] : List Int) 9, mulI ([65536, 0, 0, 0, 0, 65536, 0, 0, 0, 0, 65536, 0, 0, 0, 0, 65536] : List Int) ([65536, 0, 0, 0, 0, 65536, 0, 0, 0, 0, 65536, 0, 0, 0, 0, 65536] : List Int) 10, mulI ([65536, 0, 0, 0, 0, 65536, 0, 0, 0, 0, 65536, 0, 0, 0, 0, 65536] : List Int) ([65536, 0, 0, 0, 0, 65536, 0, 0, 0, 0, 65536, 0, 0, 0, 0, 65536] : List Int) 11, mulI ([65536, 0, 0, 0, 0, 65536, 0, 0, 0, 0, 65536, 0, 0, 0, 0, 65536] : List Int) ([65536, 0, 0, 0, 0, 65536, 0, 0, 0, 0, 65536, 0, 0, 0, 0, 65536] : List Int) 12, mulI ([65536, 0, 0, 0, 0, 65536, 0, 0, 0, 0, 65536, 0, 0, 0, 0, 65536] : List Int) ([65536, 0, 0, 0, 0, 65536, 0, 0, 0, 0, 65536, 0, 0, 0, 0, 65536] : List Int) 13, mulI ([65536, 0, 0, 0, 0, 65536, 0, 0, 0, 0, 65536, 0, 0, 0, 0, 65536] : List Int) ([65536, 0, 0, 0, 0, 65536, 0, 0, 0, 0, 65536, 0, 0, 0, 0, 65536] : List Int) 14, mulI ([65536, 0, 0, 0, 0, 65536, 0, 0, 0, 0, 65536, 0, 0, 0, 0, 65536] : List Int) ([65536, 0, 0, 0, 0, 65536, 0, 0, 0, 0, 65536, 0, 0, 0, 0, 65536] : List Int) 15, mulE ([65536, 0, 0, 0, 0, 65536, 0, 0, 0, 0, 65536, 0, 0, 0, 0, 65536] : List Int) ([65536, 0, 0, 0, 0, 65536, 0, 0, 0, 0, 65536, 0, 0, 0, 0, 65536] : List Int)] := hr
    rw [aw_mul] at hr
    subst hr
    refine h_cally (c := cUnit sg19) rfl rfl trivial fun rs hk hr => ?_
    have hr : rs = [.i 65536, .i 0, .i 0, .i 0, .i 0, .i 65536, .i 0, .i 0, .i 0, .i 0, .i 65536, .i 0, .i 0, .i 0, .i 0, .i 65536] := hr
    subst hr
    refine h_cally (c := cRight sg14) rfl rfl trivial fun rs hk hr => ?_
    have hr : rs = [.b (decide (rightP ([65536, 0, 0, 0, 0, 65536, 0, 0, 0, 0, 65536, 0, 0, 0, 0, 65536] : List Int)))] := hr
    rw [aw_right] at hr
    subst hr
    rfl
  · cases hp
end Go.Proofs.Ythdcbfgaohondaa.Fns
