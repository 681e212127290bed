/- Layer 7: the polygon of all vertices; Prims of any mode. -/
import Derived.Test.YtjcomklheilfjaaStep
set_option linter.unusedVariables false
set_option linter.unusedSimpArgs false
namespace Go.Proofs.Ytjcomklheilfjaa.Build
open Go.RowKit Go

def allV (n : Nat) : List Int := (List.range n).map fun (q : Nat) => (q : Int)
def wholeF (fs : List Bool) : List PrimD := if fs.length < 3 then [] else [⟨allV fs.length, sidesF (allV fs.length) fs true, 0⟩]
def errF (mode : Int) (n : Nat) : Int := if mode < 0 ∨ 9 < mode then 1 else if 256 < n then 8 else 0
def primsA (mode : Int) (fs : List Bool) (first : Bool) : List PrimD := if errF mode fs.length ≠ 0 then [] else if mode = 9 then wholeF fs else primsF mode.toNat fs first
theorem allV_len (n : Nat) : (allV n).length = n := by simp [allV]
theorem allV_get (n j : Nat) (h : j < n) : (allV n).getD j 0 = j := by simp [allV, List.getD_eq_getElem?_getD, h]
theorem whole_short (fb : Option Addr) (n fcap : Nat) (w : World) (hn : n < 3) : Calls Try.prog 14 #[.slice fb n fcap] w fun e w' => e = .returned (.slice none 0 0) ∧ w' = w := by
  have h : (n : Int) < 3 := by omega
  go_enter Try.func14, Try.ntmps14
  go_wp2
  go_ret
  exact ⟨rfl, rfl⟩
set_option maxHeartbeats 2000000 in
theorem whole_long (fb : Option Addr) (fcap : Nat) (fs : List Bool) (w : World) (h3 : 3 ≤ fs.length) (hl : fs.length ≤ 256) (hF : FlagR w fb fs) :
    Calls Try.prog 14 #[.slice fb fs.length fcap] w fun e w' => ∃ v, e = .returned v ∧ PrimsR w' v [⟨allV fs.length, sidesF (allV fs.length) fs true, 0⟩] ∧ Below w.heap.size w w' := by
  have h : ¬ (fs.length : Int) < 3 := by omega
  have hmk := make_ints fs.length (by omega)
  have hFH := hide hF
  obtain ⟨f, hf⟩ : ∃ f : Nat → Value, Hid (f = fun q => .int .i64 (q : Int)) := ⟨_, rfl⟩
  obtain ⟨arr, harr⟩ : ∃ arr, Hid (arr = (List.replicate fs.length (Value.int .i64 0)).toArray) := ⟨_, rfl⟩
  rw [← harr.out] at hmk
  have hb0 : Hid (Blk (w.alloc (.cells arr 3)) w.heap.size 3 (fill fs.length f (.int .i64 0) 0)) := Blk.new w 3 _ (by rw [harr.out, fill_zero])
  have hB0 : Hid (Below w.heap.size w (w.alloc (.cells arr 3))) := (Below.refl _ _).alloc (Nat.le_refl _) _
  have hlI : (fs.length : Int) ≤ 256 := by omega
  clear hF
  go_enter Try.func14, Try.ntmps14
  go_wp2_with fail
  go_loopw [13] (fun i wr => ∃ k : Nat, k ≤ fs.length ∧ i = .int .i64 k ∧ Hid (Blk wr w.heap.size 3 (fill fs.length f (.int .i64 0) k)) ∧ Hid (Below w.heap.size w wr))
    (fun i _ => fs.length - (intOf i).toNat)
  case atStart => exact ⟨0, Nat.zero_le _, rfl, hb0, hB0⟩
  case round =>
    obtain ⟨k, hk, rfl, hblk, hbl⟩ := hrel
    clear hb0 hB0
    rcases Nat.lt_or_ge k fs.length with hlt | hge
    · have hlk : (k : Int) < (fs.length : Int) := by omega
      obtain ⟨u, hu⟩ := fill_get (f := f) (z := .int .i64 0) (k := k) hlt
      have hc2 : wr.cell? ⟨w.heap.size, k, none⟩ = some u := by rw [hblk.out.cell]; exact hu
      have hz2 : wr.frozen? ⟨w.heap.size, k, none⟩ = false := hblk.out.frozen k
      clear hu
      go_wp2_with fail
      refine ⟨⟨k + 1, hlt, rfl, ?_, hbl.out.setCell (p := ⟨w.heap.size, k, none⟩) (Nat.le_refl _) _⟩, ?_⟩
      · unfold Hid
        rw [← fill_set hlt (u := .int .i64 (k : Int)) (by rw [hf.out])]
        exact hblk.out.set k _
      · simp [intOf]; omega
    · have hlk : ¬ (k : Int) < (fs.length : Int) := by omega
      have hkl : k = fs.length := by omega
      have hV : Hid (Blk wr w.heap.size 3 (ints (allV fs.length))) := by
        have := hblk.out
        rw [hkl, fill_all, hf.out] at this
        unfold Hid ints allV
        rw [List.map_map]; exact this
      clear hblk
      have hFr : FlagR wr fb fs := fun m hm => by
        obtain ⟨fa, e, h1⟩ := hFH.out m hm
        exact ⟨fa, e, keep_cell hbl.out h1⟩
      have hs := sides_any w.heap.size fs.length (allV fs.length) fb fcap fs true wr (by rw [allV_len]; omega) (by omega) (fun j hj => by
        rw [hV.out.cell]; simp [ints, List.getD_eq_getElem?_getD, hj]) hFr (fun j hj => ⟨j, by rw [allV_len] at hj; rw [allV_get _ _ hj], by rw [allV_len] at hj; exact hj⟩)
      rw [allV_len] at hs
      have hsH := hide hs
      clear hs hFr
      go_wp2_with (go_at_call 99)
      go_at_call 16
      refine hsH.out.mono ?_
      rintro e w4 ⟨ve, rfl, hE, hb4⟩
      obtain ⟨ea, en, ec, rfl⟩ : ∃ ea en ec, ve = .slice ea en ec := by
        rcases hE with ⟨_, rfl⟩ | ⟨g, _, rfl, _⟩
        · exact ⟨_, _, _, rfl⟩
        · exact ⟨_, _, _, rfl⟩
      have hVr : Hid (VRow w4 (.slice (some ⟨w.heap.size, 0, none⟩) fs.length fs.length) (allV fs.length)) := ⟨w.heap.size, fs.length, by rw [allV_len], by rw [allV_len]; omega, fun j hj => by
        rw [(hV.out.keep hb4 hV.out.lt).cell]; simp [ints, List.getD_eq_getElem?_getD, hj]⟩
      have hEr := hide hE.erow
      have hbw : Hid (Below w.heap.size w w4) := hbl.out.trans (hb4.mono hbl.out.size)
      clear hE hb4
      go_wp2_with fail
      go_ret
      have hk : Below w4.heap.size w4 (w4.alloc (.cells #[.slice (some ⟨w.heap.size, 0, none⟩) fs.length fs.length, .slice ea en ec, .int .i64 0] 35)) := (Below.refl _ _).alloc (Nat.le_refl _) _
      refine ⟨_, rfl, .inr ⟨w4.heap.size, 1, rfl, fun i p hp => ?_⟩, hbw.out.trans (hk.mono hbw.out.size)⟩
      have hB := Blk.new w4 35 [.slice (some ⟨w.heap.size, 0, none⟩) fs.length fs.length, .slice ea en ec, .int .i64 0] rfl
      match i, hp with
      | 0, hp =>
        obtain rfl : (⟨allV fs.length, sidesF (allV fs.length) fs true, 0⟩ : PrimD) = p := by simpa using hp
        exact ⟨_, _, hB.cell 0, hB.cell 1, hB.cell 2, hVr.out.below hk, hEr.out.below hk⟩
      | i + 1, hp => simp at hp
theorem whole_any (fb : Option Addr) (fcap : Nat) (fs : List Bool) (w : World) (hl : fs.length ≤ 256) (hF : FlagR w fb fs) :
    Calls Try.prog 14 #[.slice fb fs.length fcap] w fun e w' => ∃ v, e = .returned v ∧ PrimsR w' v (wholeF fs) ∧ Below w.heap.size w w' := by
  unfold wholeF
  rcases Nat.lt_or_ge fs.length 3 with h | h
  · rw [if_pos h]
    refine (whole_short fb fs.length fcap w h).mono ?_
    rintro e w' ⟨rfl, rfl⟩
    exact ⟨_, rfl, .inl ⟨rfl, none, 0, rfl⟩, Below.refl _ _⟩
  · rw [if_neg (by omega)]
    exact whole_long fb fcap fs w h hl hF
end Go.Proofs.Ytjcomklheilfjaa.Build
