/- Layer 7: the law BuildCounts, walked. -/
import Derived.Test.YtjcomklheilfjaaAny
set_option linter.unusedVariables false
set_option linter.unusedSimpArgs false
namespace Go.Proofs.Ytjcomklheilfjaa.Build
open Go.RowKit Go

theorem prims_len (mode : Int) (n : Nat) (first : Bool) (fs : List Bool) (hfs : fs.length = n) (h0 : ¬ mode < 0) (h9 : ¬ 9 < mode) (h1 : 1 ≤ n) (h2 : n ≤ 256) : ((primsA mode fs first).length : Int) = countF mode n ∧ errF mode n = 0 := by
  have he : errF mode n = 0 := by unfold errF; rw [if_neg (by omega), if_neg (by omega)]
  refine ⟨?_, he⟩
  unfold primsA
  rw [hfs, if_neg (by rw [he]; simp)]
  by_cases h : mode = 9
  · rw [if_pos h]
    have hcf : countF mode n = if (n : Int) < 3 then 0 else 1 := by unfold countF; rw [if_neg (by omega), if_pos h]
    rw [hcf]
    unfold wholeF
    rw [hfs]
    by_cases h3 : n < 3
    · rw [if_pos h3, if_pos (by omega)]; rfl
    · rw [if_neg h3, if_neg (by omega)]; rfl
  · rw [if_neg h]
    unfold primsF
    rw [List.length_map, List.length_range, hfs, countN_cast _ _ h2, show ((mode.toNat : Nat) : Int) = mode by omega]
set_option maxHeartbeats 2000000 in
theorem counts_out (mode n : Int) (w : World) (h : mode < 0 ∨ 9 < mode ∨ n < 1 ∨ 256 < n) : Calls Try.prog 4 #[.int .i64 mode, .int .i64 n] w fun e w' => e = .returned (.bool true) ∧ Below w.heap.size w w' := by
  have hc := count_any mode n w
  have h0 : countF mode n = 0 := by unfold countF; rw [if_pos h]
  unfold CountPost at hc
  rw [h0] at hc
  have hcH := hide hc
  have hH := hide h
  clear hc h0 h
  go_enter Try.func4, Try.ntmps4
  go_wp2_with (go_at_call 99)
  go_at_call 12
  refine hcH.out.mono ?_
  rintro e w1 ⟨rfl, hb1⟩
  have hbH := hide hb1
  have hsz := hb1.size
  clear hb1
  by_cases h1 : mode < 0
  · go_wp2_with (go_at_call 8; refine (awake_any _).mono ?_; rintro e w2 ⟨rfl, hb2⟩)
    go_ret
    exact ⟨rfl, hbH.out.trans (hb2.mono hsz)⟩
  by_cases h2 : 9 < mode
  · go_wp2_with (go_at_call 8; refine (awake_any _).mono ?_; rintro e w2 ⟨rfl, hb2⟩)
    go_ret
    exact ⟨rfl, hbH.out.trans (hb2.mono hsz)⟩
  by_cases h3 : n < 1
  · go_wp2_with (go_at_call 8; refine (awake_any _).mono ?_; rintro e w2 ⟨rfl, hb2⟩)
    go_ret
    exact ⟨rfl, hbH.out.trans (hb2.mono hsz)⟩
  have h4 : 256 < n := by have := hH.out; omega
  go_wp2_with (go_at_call 8; refine (awake_any _).mono ?_; rintro e w2 ⟨rfl, hb2⟩)
  go_ret
  exact ⟨rfl, hbH.out.trans (hb2.mono hsz)⟩
set_option maxHeartbeats 2000000 in
theorem counts_in (mode : Int) (n : Nat) (w : World) (h1 : ¬ mode < 0) (h2 : ¬ 9 < mode) (h3 : ¬ (n : Int) < 1) (h4 : ¬ 256 < (n : Int)) : Calls Try.prog 4 #[.int .i64 mode, .int .i64 n] w fun e w' => e = .returned (.bool true) ∧ Below w.heap.size w w' := by
  obtain ⟨hl, he⟩ := prims_len mode n true (List.replicate n false) (by simp) h1 h2 (by omega) (by omega)
  obtain ⟨C, hC⟩ : ∃ C, Hid (C = (primsA mode (List.replicate n false) true).length) := ⟨_, rfl⟩
  rw [← hC.out] at hl
  have hc := count_any mode n w
  unfold CountPost at hc
  rw [← hl] at hc
  have hcH := hide hc
  have hmk := make_bools n (by omega)
  obtain ⟨arr, harr⟩ : ∃ arr, Hid (arr = (List.replicate n (Value.bool false)).toArray) := ⟨_, rfl⟩
  rw [← harr.out] at hmk
  have hp : Hid (∀ w1 : World, Calls Try.prog 9 #[.int .i64 mode, .slice (some ⟨w1.heap.size, 0, none⟩) n n, .bool true] (w1.alloc (.cells arr 4)) fun e w' => ∃ va vc, e = .returned (.tuple #[.slice va C vc, .int .i64 0]) ∧ Below (w1.alloc (.cells arr 4)).heap.size (w1.alloc (.cells arr 4)) w') := fun w1 => by
    have h := prims_any mode (some ⟨w1.heap.size, 0, none⟩) n (List.replicate n false) true (w1.alloc (.cells arr 4)) (fun _ => by rw [harr.out]; exact new_flags n)
    rw [List.length_replicate] at h
    refine h.mono ?_
    rintro e w' ⟨v, rfl, hR, hb⟩
    obtain ⟨va, vc, rfl⟩ := hR.form
    exact ⟨va, vc, by rw [List.length_replicate, he, hC.out], hb⟩
  clear hc hl he
  go_enter Try.func4, Try.ntmps4
  go_wp2_with (go_at_call 99)
  go_at_call 12
  refine hcH.out.mono ?_
  rintro e w1 ⟨rfl, hb1⟩
  have hbH := hide hb1
  have hsz := hb1.size
  clear hb1
  go_wp2_with (go_at_call 99)
  go_at_call 9
  refine (hp.out w1).mono ?_
  rintro e w2 ⟨va, vc, rfl, hb2⟩
  have hb3 : Hid (Below w.heap.size w w2) := (hbH.out.alloc hsz _).trans (hb2.mono (by simp; omega))
  clear hb2
  have hsz3 := hb3.out.size
  go_wp2_with (go_at_call 8; refine (awake_any _).mono ?_; rintro e w3 ⟨rfl, hb4⟩)
  go_ret
  exact ⟨rfl, hb3.out.trans (hb4.mono hsz3)⟩
theorem counts_any (mode n : Int) (w : World) : Calls Try.prog 4 #[.int .i64 mode, .int .i64 n] w fun e w' => e = .returned (.bool true) ∧ Below w.heap.size w w' := by
  by_cases h : mode < 0 ∨ 9 < mode ∨ n < 1 ∨ 256 < n
  · exact counts_out mode n w h
  · obtain ⟨k, rfl⟩ : ∃ k : Nat, n = k := ⟨n.toNat, by omega⟩
    exact counts_in mode k w (by omega) (by omega) (by omega) (by omega)
end Go.Proofs.Ytjcomklheilfjaa.Build
