/- Layer 7: the law BuildTells, walked. -/
import Derived.Test.YtjcomklheilfjaaRef4
import Derived.Test.YtjcomklheilfjaaFlags3
set_option linter.unusedVariables false
set_option linter.unusedSimpArgs false
namespace Go.Proofs.Ytjcomklheilfjaa.Build
open Go.RowKit Go

theorem tells_long (mode : Int) (fb : Option Addr) (fcap : Nat) (n : Nat) (first : Bool) (w : World) (h : 300 < n) : Calls Try.prog 3 #[.int .i64 mode, .slice fb n fcap, .bool first] w fun e w' => e = .returned (.bool true) ∧ Below w.heap.size w w' := by
  have h4 : (300 : Int) < (n : Int) := by omega
  go_enter Try.func3, Try.ntmps3
  go_wp2_with (go_at_call 8; refine (awake_any _).mono ?_; rintro e w1 ⟨rfl, hb⟩)
  go_ret
  exact ⟨rfl, hb⟩
theorem primsA_row (mode : Int) (fs : List Bool) (first : Bool) : (primsA mode fs first).length ≤ 100000 ∧ ∀ p ∈ primsA mode fs first, p.V.length ≤ 100000 ∧ p.E.length ≤ 100000 := by
  by_cases he : errF mode fs.length = 0
  · have hr : ¬ (mode < 0 ∨ 9 < mode) ∧ ¬ 256 < fs.length := by
      unfold errF at he
      split at he
      · simp at he
      · rename_i h
        split at he
        · simp at he
        · rename_i h2; exact ⟨h, h2⟩
    obtain ⟨m, rfl⟩ : ∃ m : Nat, mode = m := ⟨mode.toNat, by omega⟩
    refine ⟨by have := primsA_small m fs (by omega) first; omega, fun p hp => ?_⟩
    unfold primsA at hp
    rw [if_neg (by rw [he]; simp)] at hp
    have hs : ∀ (V : List Int) (fl : Bool), V.length ≤ 256 → (sidesF V fs fl).length ≤ 256 := fun V fl h => by unfold sidesF; split <;> simp [h]
    split at hp
    · unfold wholeF at hp
      split at hp
      · simp at hp
      · simp only [List.mem_singleton] at hp
        subst hp
        have h1 : (allV fs.length).length ≤ 256 := by rw [allV_len]; omega
        have := hs _ true h1
        simp only; omega
    · unfold primsF at hp
      obtain ⟨i, hi, rfl⟩ := List.mem_map.1 hp
      have h1 : (vertsOf (planOf m) fs.length i).length ≤ 256 := by
        rw [vertsOf_len]
        have := (planOf_len m).2
        omega
      have := hs _ (planOf m).flagged h1
      simp only [primF, Int.toNat_natCast]
      omega
  · unfold primsA; rw [if_pos he]; simp
set_option maxHeartbeats 4000000 in
theorem tells_short (mode : Int) (fb : Option Addr) (fcap : Nat) (fs : List Bool) (first : Bool) (w : World) (hl : fs.length ≤ 300) (hF : FlagR w fb fs) :
    Calls Try.prog 3 #[.int .i64 mode, .slice fb fs.length fcap, .bool first] w fun e w' => e = .returned (.bool true) ∧ Below w.heap.size w w' := by
  have h4 : ¬ (300 : Int) < (fs.length : Int) := by omega
  have h5 : (fs.length : Int) ≤ 300 := by omega
  have hp := hide (prims_any mode fb fcap fs first w (fun _ => hF))
  have hFH := hide hF
  obtain ⟨E, hE⟩ : ∃ E, Hid (E = errF mode fs.length) := ⟨_, rfl⟩
  obtain ⟨ps, hps⟩ : ∃ ps, Hid (ps = primsA mode fs first) := ⟨_, rfl⟩
  have hrow := hide (primsA_row mode fs first)
  rw [← hps.out] at hrow
  clear hF hl
  go_enter Try.func3, Try.ntmps3
  go_wp2_with (go_at_call 99)
  go_at_call 9
  refine hp.out.mono ?_
  rintro e w1 ⟨v1, rfl, hR1, hb1⟩
  have hr := hide (ref_any mode fb fcap fs first w1 (fun _ => fun j hj => by
    obtain ⟨fa, e, h1⟩ := hFH.out j hj
    exact ⟨fa, e, keep_cell hb1 h1⟩))
  rw [← hps.out] at hR1
  rw [← hE.out]
  have hR1H := hide hR1
  have hb1H := hide hb1
  obtain ⟨a1, c1, rfl⟩ := hR1.form
  clear hR1 hb1 hp
  go_wp2_with (go_at_call 99)
  go_at_call 10
  refine hr.out.mono ?_
  rintro e w2 ⟨v2, rfl, hR2, hb2⟩
  rw [← hps.out] at hR2
  rw [← hE.out]
  have hR2H := hide hR2
  have hb2H : Hid (Below w.heap.size w w2) := hb1H.out.trans (hb2.mono hb1H.out.size)
  have hR1' : Hid (PrimsR w2 (.slice a1 ps.length c1) ps) := hR1H.out.below hb2
  obtain ⟨a2, c2, rfl⟩ := hR2.form
  clear hR2 hb2 hr
  go_wp2_with (go_at_call 99)
  go_at_call 8
  refine (awake_any _).mono ?_
  rintro e w3 ⟨rfl, hb3⟩
  have hb3H : Hid (Below w.heap.size w w3) := hb2H.out.trans (hb3.mono hb2H.out.size)
  have hsame := hide (same_true (.slice a1 ps.length c1) (.slice a2 ps.length c2) ps w3 hrow.out.1 hrow.out.2 (hR1'.out.below hb3) (hR2H.out.below hb3))
  clear hb3
  go_wp2_with (go_at_call 99)
  go_at_call 11
  refine hsame.out.mono ?_
  rintro e w4 ⟨rfl, hb4⟩
  have hb4H : Hid (Below w.heap.size w w4) := hb3H.out.trans (hb4.mono hb3H.out.size)
  clear hb4 hsame
  go_wp2_with (go_at_call 99)
  go_at_call 12
  refine (count_any mode fs.length _).mono ?_
  rintro e w5 ⟨rfl, hb5⟩
  have hb5H : Hid (Below w.heap.size w w5) := hb4H.out.trans (hb5.mono hb4H.out.size)
  obtain ⟨C, hC⟩ : ∃ C, Hid (C = countF mode fs.length) := ⟨_, rfl⟩
  rw [← hC.out]
  clear hb5
  go_wp2_with (go_at_call 99)
  go_at_call 13
  refine (refcount_any mode fs.length _).mono ?_
  rintro e w6 ⟨rfl, hb6⟩
  have hb6H : Hid (Below w.heap.size w w6) := hb5H.out.trans (hb6.mono hb5H.out.size)
  rw [← hC.out]
  clear hb6
  go_wp2_with (go_at_call 99)
  go_ret
  exact ⟨rfl, hb6H.out⟩
theorem tells_any (mode : Int) (fb : Option Addr) (fcap : Nat) (fs : List Bool) (first : Bool) (w : World) (hF : FlagR w fb fs) :
    Calls Try.prog 3 #[.int .i64 mode, .slice fb fs.length fcap, .bool first] w fun e w' => e = .returned (.bool true) ∧ Below w.heap.size w w' := by
  rcases Nat.lt_or_ge 300 fs.length with h | h
  · exact tells_long mode fb fcap fs.length first w h
  · exact tells_short mode fb fcap fs first w h hF
end Go.Proofs.Ytjcomklheilfjaa.Build
