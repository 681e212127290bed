/- Layer 7: Count: how many there are. -/
import Derived.Test.YtjcomklheilfjaaKit
set_option linter.unusedVariables false
set_option linter.unusedSimpArgs false
namespace Go.Proofs.Ytjcomklheilfjaa.Build
open Go.RowKit Go

theorem planOf_step (m : Nat) : 1 ≤ (planOf m).step ∧ (planOf m).step ≤ 4 := by
  match m with
  | 0 | 1 | 2 | 3 | 4 | 5 | 6 | 7 => decide
  | m + 8 => exact (show 1 ≤ (2 : Int) ∧ (2 : Int) ≤ 4 by decide)
theorem planOf_len (m : Nat) : 1 ≤ (planOf m).v.length ∧ (planOf m).v.length ≤ 4 := by
  match m with
  | 0 | 1 | 2 | 3 | 4 | 5 | 6 | 7 => decide
  | m + 8 => exact (show 1 ≤ (4 : Nat) ∧ (4 : Nat) ≤ 4 by decide)
/-- How many there are. -/
def countF (mode n : Int) : Int :=
  if mode < 0 ∨ 9 < mode ∨ n < 1 ∨ 256 < n then 0
  else if mode = 9 then (if n < 3 then 0 else 1)
  else if mode = 3 then (if n = 1 then 0 else n)
  else if n < (planOf mode.toNat).v.length then 0 else (n - (planOf mode.toNat).v.length).tdiv (planOf mode.toNat).step + 1
def CountPost (mode n : Int) (w : World) (e : Ending) (w' : World) : Prop := e = .returned (.int .i64 (countF mode n)) ∧ Below w.heap.size w w'
theorem count_a (mode n : Int) (w : World) (h : mode < 0) : Calls Try.prog 12 #[.int .i64 mode, .int .i64 n] w (CountPost mode n w) := by
  have hf : Hid (countF mode n = 0) := by unfold Hid countF; rw [if_pos (.inl h)]
  go_enter Try.func12, Try.ntmps12
  go_wp2
  go_ret
  exact ⟨by rw [hf.out]; rfl, Below.refl _ _⟩
theorem count_b (mode n : Int) (w : World) (h : ¬ mode < 0) (h2 : 9 < mode) : Calls Try.prog 12 #[.int .i64 mode, .int .i64 n] w (CountPost mode n w) := by
  have hf : Hid (countF mode n = 0) := by unfold Hid countF; rw [if_pos (.inr (.inl h2))]
  go_enter Try.func12, Try.ntmps12
  go_wp2
  go_ret
  exact ⟨by rw [hf.out]; rfl, Below.refl _ _⟩
theorem count_c (mode n : Int) (w : World) (h : ¬ mode < 0) (h2 : ¬ 9 < mode) (h3 : n < 1) : Calls Try.prog 12 #[.int .i64 mode, .int .i64 n] w (CountPost mode n w) := by
  have hf : Hid (countF mode n = 0) := by unfold Hid countF; rw [if_pos (.inr (.inr (.inl h3)))]
  go_enter Try.func12, Try.ntmps12
  go_wp2
  go_ret
  exact ⟨by rw [hf.out]; rfl, Below.refl _ _⟩
theorem count_d (mode n : Int) (w : World) (h : ¬ mode < 0) (h2 : ¬ 9 < mode) (h3 : ¬ n < 1) (h4 : 256 < n) : Calls Try.prog 12 #[.int .i64 mode, .int .i64 n] w (CountPost mode n w) := by
  have hf : Hid (countF mode n = 0) := by unfold Hid countF; rw [if_pos (.inr (.inr (.inr h4)))]
  go_enter Try.func12, Try.ntmps12
  go_wp2
  go_ret
  exact ⟨by rw [hf.out]; rfl, Below.refl _ _⟩
theorem count_9 (n : Int) (w : World) (h3 : ¬ n < 1) (h4 : ¬ 256 < n) : Calls Try.prog 12 #[.int .i64 9, .int .i64 n] w (CountPost 9 n w) := by
  have hf : Hid (countF 9 n = if n < 3 then 0 else 1) := by unfold Hid countF; rw [if_neg (by omega), if_pos rfl]
  go_enter Try.func12, Try.ntmps12
  go_wp2
  all_goals go_ret
  all_goals refine ⟨?_, Below.refl _ _⟩
  all_goals rw [hf.out]
  all_goals refine congrArg (fun z => Ending.returned (Value.int .i64 z)) (?_ : _ = if n < 3 then (0 : Int) else 1)
  all_goals (split <;> omega)
theorem count_3 (n : Int) (w : World) (h3 : ¬ n < 1) (h4 : ¬ 256 < n) : Calls Try.prog 12 #[.int .i64 3, .int .i64 n] w (CountPost 3 n w) := by
  have hf : Hid (countF 3 n = if n = 1 then 0 else n) := by unfold Hid countF; rw [if_neg (by omega), if_neg (by decide), if_pos rfl]
  by_cases h1 : n = 1
  · subst h1
    go_enter Try.func12, Try.ntmps12
    go_wp2
    go_ret
    exact ⟨by rw [hf.out]; rfl, Below.refl _ _⟩
  · have h1' : (n == 1) = false := by simpa using h1
    have hf2 : Hid (countF 3 n = n) := by unfold Hid; rw [hf.out, if_neg h1]
    go_enter Try.func12, Try.ntmps12
    go_wp2
    go_ret
    exact ⟨by rw [hf2.out]; rfl, Below.refl _ _⟩
set_option maxHeartbeats 1000000 in
theorem count_m (m : Nat) (n : Int) (w : World) (hm : m < 9) (h9 : m ≠ 3) (h3 : ¬ n < 1) (h4 : ¬ 256 < n) : Calls Try.prog 12 #[.int .i64 m, .int .i64 n] w (CountPost m n w) := by
  have h1 : ¬ (m : Int) < 0 := by omega
  have h2 : ¬ (9 : Int) < (m : Int) := by omega
  have h5 : ((m : Int) == 9) = false := by simp; omega
  have h6 : ((m : Int) == 3) = false := by simp; omega
  obtain ⟨p, hp⟩ : ∃ p, Hid (p = planOf m) := ⟨_, rfl⟩
  obtain ⟨s1, s2⟩ := planOf_step m
  obtain ⟨l1, l2⟩ := planOf_len m
  rw [← hp.out] at s1 s2 l1 l2
  obtain ⟨L, hL⟩ : ∃ L : Nat, Hid (L = p.v.length) := ⟨_, rfl⟩
  rw [← hL.out] at l1 l2
  obtain ⟨st, hst⟩ : ∃ st : Int, Hid (st = p.step) := ⟨_, rfl⟩
  rw [← hst.out] at s1 s2
  have hf : Hid (countF m n = if n < (L : Int) then 0 else (n - L).tdiv st + 1) := by
    unfold Hid countF
    rw [if_neg (by omega), if_neg (by omega), if_neg (by omega), Int.toNat_natCast, ← hp.out, ← hL.out, ← hst.out]
  have hplan := hide (plans_any m hm)
  have hs0 : st ≠ 0 := by omega
  go_enter Try.func12, Try.ntmps12
  go_wp2_with (go_at_call 99)
  go_at_call 15
  refine (hplan.out w).mono ?_
  rintro e w1 ⟨vs, os, rfl, ⟨g, cap, rfl, hcap, hg, hcells⟩, ho1, ho2, hb⟩
  obtain ⟨oa, on, oc, rfl⟩ : ∃ oa on oc, os = .slice oa on oc := by
    by_cases h : (planOf m).odd = []
    · exact ⟨_, _, _, ho1 h⟩
    · obtain ⟨g', cap', h', _⟩ := ho2 h
      exact ⟨_, _, _, h'⟩
  rw [← hp.out, ← hst.out]
  have hlen : (ints p.v).length = L := by rw [hL.out]; simp [ints]
  rw [hlen]
  obtain ⟨fi, hfi⟩ : ∃ fi, Hid (fi = p.first) := ⟨_, rfl⟩
  obtain ⟨la, hla⟩ : ∃ la, Hid (la = p.last) := ⟨_, rfl⟩
  obtain ⟨fl, hfl⟩ : ∃ fl, Hid (fl = p.flagged) := ⟨_, rfl⟩
  obtain ⟨an, han⟩ : ∃ an, Hid (an = p.anchored) := ⟨_, rfl⟩
  rw [← hfi.out, ← hla.out, ← hfl.out, ← han.out]
  have hsz := hb.size
  have hbF : Hid (∀ o, Below w.heap.size w (w1.alloc o)) := fun o => hb.alloc hsz o
  clear ho1 ho2 hb hlen hcells hcap hsz
  rcases Int.lt_or_le n L with hn | hn
  · have hf2 : Hid (countF m n = 0) := by unfold Hid; rw [hf.out, if_pos hn]
    go_wp2_with (go_at_call 99)
    go_ret
    exact ⟨by rw [hf2.out]; rfl, hbF.out _⟩
  · have hn' : ¬ n < (L : Int) := by omega
    have hf2 : Hid (countF m n = (n - L).tdiv st + 1) := by unfold Hid; rw [hf.out, if_neg hn']
    have hq : 0 ≤ (n - L).tdiv st ∧ (n - L).tdiv st ≤ 256 := by
      rw [Int.tdiv_eq_ediv_of_nonneg (by omega)]
      exact ⟨Int.ediv_nonneg (by omega) (by omega), by have := Int.ediv_le_self st (show 0 ≤ n - (L : Int) by omega); omega⟩
    obtain ⟨hq1, hq2⟩ := hq
    go_wp2_with (go_at_call 99)
    go_ret
    refine ⟨?_, hbF.out _⟩
    rw [hf2.out]
    rfl
theorem count_any (mode n : Int) (w : World) : Calls Try.prog 12 #[.int .i64 mode, .int .i64 n] w (CountPost mode n w) := by
  by_cases h : mode < 0
  · exact count_a mode n w h
  by_cases h2 : 9 < mode
  · exact count_b mode n w h h2
  by_cases h3 : n < 1
  · exact count_c mode n w h h2 h3
  by_cases h4 : 256 < n
  · exact count_d mode n w h h2 h3 h4
  by_cases h9 : mode = 9
  · subst h9; exact count_9 n w h3 h4
  by_cases h3' : mode = 3
  · subst h3'; exact count_3 n w h3 h4
  obtain ⟨m, rfl⟩ : ∃ m : Nat, mode = m := ⟨mode.toNat, by omega⟩
  exact count_m m n w (by omega) (by omega) h3 h4
end Go.Proofs.Ytjcomklheilfjaa.Build
