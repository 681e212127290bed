/- Layer 7: Prims of any mode; the example. -/
import Derived.Test.YtjcomklheilfjaaPrims2
import Derived.Test.YtjcomklheilfjaaWhole
import Derived.Test.YtjcomklheilfjaaSame
set_option linter.unusedVariables false
set_option linter.unusedSimpArgs false
namespace Go.Proofs.Ytjcomklheilfjaa.Build
open Go.RowKit Go

def PrimsPost (mode : Int) (fs : List Bool) (first : Bool) (w : World) (e : Ending) (w' : World) : Prop := ∃ v, e = .returned (.tuple #[v, .int .i64 (errF mode fs.length)]) ∧ PrimsR w' v (primsA mode fs first) ∧ Below w.heap.size w w'
theorem prims_neg (mode : Int) (fb : Option Addr) (fcap : Nat) (fs : List Bool) (first : Bool) (w : World) (h : mode < 0) : Calls Try.prog 9 #[.int .i64 mode, .slice fb fs.length fcap, .bool first] w (PrimsPost mode fs first w) := by
  have he : Hid (errF mode fs.length = 1) := by unfold Hid errF; rw [if_pos (.inl h)]
  go_enter Try.func9, Try.ntmps9
  go_wp2_with fail
  go_ret2
  exact ⟨.slice none 0 0, by rw [he.out]; rfl, .inl ⟨by unfold primsA; rw [he.out]; rfl, none, 0, rfl⟩, Below.refl _ _⟩
theorem prims_big (mode : Int) (fb : Option Addr) (fcap : Nat) (fs : List Bool) (first : Bool) (w : World) (h : ¬ mode < 0) (h2 : 9 < mode) : Calls Try.prog 9 #[.int .i64 mode, .slice fb fs.length fcap, .bool first] w (PrimsPost mode fs first w) := by
  have he : Hid (errF mode fs.length = 1) := by unfold Hid errF; rw [if_pos (.inr h2)]
  go_enter Try.func9, Try.ntmps9
  go_wp2_with fail
  go_ret2
  exact ⟨.slice none 0 0, by rw [he.out]; rfl, .inl ⟨by unfold primsA; rw [he.out]; rfl, none, 0, rfl⟩, Below.refl _ _⟩
theorem prims_full (mode : Int) (fb : Option Addr) (fcap : Nat) (fs : List Bool) (first : Bool) (w : World) (h : ¬ mode < 0) (h2 : ¬ 9 < mode) (h3 : 256 < fs.length) : Calls Try.prog 9 #[.int .i64 mode, .slice fb fs.length fcap, .bool first] w (PrimsPost mode fs first w) := by
  have he : Hid (errF mode fs.length = 8) := by unfold Hid errF; rw [if_neg (by omega), if_pos h3]
  have h4 : (256 : Int) < (fs.length : Int) := by omega
  go_enter Try.func9, Try.ntmps9
  go_wp2_with fail
  go_ret2
  exact ⟨.slice none 0 0, by rw [he.out]; rfl, .inl ⟨by unfold primsA; rw [he.out]; rfl, none, 0, rfl⟩, Below.refl _ _⟩
theorem prims_9 (fb : Option Addr) (fcap : Nat) (fs : List Bool) (first : Bool) (w : World) (h3 : fs.length ≤ 256) (hF : FlagR w fb fs) : Calls Try.prog 9 #[.int .i64 9, .slice fb fs.length fcap, .bool first] w (PrimsPost 9 fs first w) := by
  have he : Hid (errF 9 fs.length = 0) := by unfold Hid errF; rw [if_neg (by omega), if_neg (by omega)]
  have h4 : ¬ (256 : Int) < (fs.length : Int) := by omega
  have hw := hide (whole_any fb fcap fs w h3 hF)
  clear hF
  go_enter Try.func9, Try.ntmps9
  go_wp2_with (go_at_call 99)
  go_at_call 14
  refine hw.out.mono ?_
  rintro e w1 ⟨v, rfl, hR, hb⟩
  have hRH := hide hR
  have hbH := hide hb
  clear hR hb
  go_wp2_with fail
  go_ret2
  exact ⟨v, by rw [he.out]; rfl, by unfold primsA; rw [he.out]; exact hRH.out, hbH.out⟩
theorem prims_any (mode : Int) (fb : Option Addr) (fcap : Nat) (fs : List Bool) (first : Bool) (w : World) (hF : fs.length ≤ 256 → FlagR w fb fs) : Calls Try.prog 9 #[.int .i64 mode, .slice fb fs.length fcap, .bool first] w (PrimsPost mode fs first w) := by
  by_cases h : mode < 0
  · exact prims_neg mode fb fcap fs first w h
  by_cases h2 : 9 < mode
  · exact prims_big mode fb fcap fs first w h h2
  rcases Nat.lt_or_ge 256 fs.length with h3 | h3
  · exact prims_full mode fb fcap fs first w h h2 h3
  by_cases h9 : mode = 9
  · subst h9; exact prims_9 fb fcap fs first w h3 (hF h3)
  obtain ⟨m, rfl⟩ : ∃ m : Nat, mode = m := ⟨mode.toNat, by omega⟩
  refine (prims_m m (by omega) fb fcap fs first w h3 (hF h3)).mono ?_
  rintro e w' ⟨v, rfl, hR, hb⟩
  have he : errF m fs.length = 0 := by unfold errF; rw [if_neg (by omega), if_neg (by omega)]
  refine ⟨v, by rw [he], ?_, hb⟩
  unfold primsA
  rw [if_neg (by rw [he]; simp), if_neg (by omega), Int.toNat_natCast]
  exact hR
/-! ### The example -/
theorem new_flags {w : World} (n : Nat) : FlagR (w.alloc (.cells (List.replicate n (Value.bool false)).toArray 4)) (some ⟨w.heap.size, 0, none⟩) (List.replicate n false) := fun m hm => by
  rw [List.length_replicate] at hm
  refine ⟨_, rfl, ?_⟩
  have hadd : (⟨w.heap.size, 0, none⟩ : Addr).add m = ⟨w.heap.size, m, none⟩ := by unfold Addr.add; split <;> simp_all
  rw [hadd, (Blk.new w 4 (List.replicate n (Value.bool false)) rfl).cell]
  simp [hm, List.getD_eq_getElem?_getD]
def exampleF : List PrimD := [⟨[0, 1, 2], [true, true, true], 2⟩, ⟨[2, 1, 3], [true, true, true], 3⟩]
theorem example_prims : primsA 5 (List.replicate 4 false) false = exampleF := by
  unfold primsA exampleF
  rw [if_neg (by decide), if_neg (by decide)]
  unfold primsF
  have : countN 5 (List.replicate 4 false).length = 2 := by decide
  rw [show (5 : Int).toNat = 5 from rfl, this]
  simp [List.range_succ, primF, vertsOf, vertF, addOf, planOf, sidesF, sideF]
theorem vrow_of {w : World} {g cap : Nat} {V : List Int} (h : Blk w g 3 (ints V)) (h0 : 0 < V.length) : VRow w (.slice (some ⟨g, 0, none⟩) V.length cap) V := ⟨g, cap, rfl, h0, fun k hk => by rw [h.cell]; simp [ints, List.getD_eq_getElem?_getD, hk]⟩
theorem erow_of {w : World} {g cap : Nat} {E : List Bool} (h : Blk w g 4 (bools E)) (h0 : 0 < E.length) : ERow w (.slice (some ⟨g, 0, none⟩) E.length cap) E := .inr ⟨g, cap, rfl, h0, fun k hk => by rw [h.cell]; simp [bools, List.getD_eq_getElem?_getD, hk]⟩
theorem lit_prims (w1 : World) : PrimsR (((((w1.alloc (.cells #[.int .i64 0, .int .i64 1, .int .i64 2] 3)).alloc (.cells #[.bool true, .bool true, .bool true] 4)).alloc (.cells #[.int .i64 2, .int .i64 1, .int .i64 3] 3)).alloc (.cells #[.bool true, .bool true, .bool true] 4)).alloc (.cells #[.slice (some ⟨w1.heap.size, 0, none⟩) 3 3, .slice (some ⟨w1.heap.size + 1, 0, none⟩) 3 3, .int .i64 2, .slice (some ⟨w1.heap.size + 1 + 1, 0, none⟩) 3 3, .slice (some ⟨w1.heap.size + 1 + 1 + 1, 0, none⟩) 3 3, .int .i64 3] 35)) (.slice (some ⟨w1.heap.size + 1 + 1 + 1 + 1, 0, none⟩) 2 2) exampleF := by
  have h0 : Blk (((((w1.alloc (.cells #[.int .i64 0, .int .i64 1, .int .i64 2] 3)).alloc (.cells #[.bool true, .bool true, .bool true] 4)).alloc (.cells #[.int .i64 2, .int .i64 1, .int .i64 3] 3)).alloc (.cells #[.bool true, .bool true, .bool true] 4)).alloc (.cells #[.slice (some ⟨w1.heap.size, 0, none⟩) 3 3, .slice (some ⟨w1.heap.size + 1, 0, none⟩) 3 3, .int .i64 2, .slice (some ⟨w1.heap.size + 1 + 1, 0, none⟩) 3 3, .slice (some ⟨w1.heap.size + 1 + 1 + 1, 0, none⟩) 3 3, .int .i64 3] 35)) w1.heap.size 3 (ints [0, 1, 2]) := blk_old _ (blk_old _ (blk_old _ (blk_old _ (blk_new _ rfl))))
  have h1 := vrow_of (cap := 3) h0 (by decide)
  have h2 : Blk (((((w1.alloc (.cells #[.int .i64 0, .int .i64 1, .int .i64 2] 3)).alloc (.cells #[.bool true, .bool true, .bool true] 4)).alloc (.cells #[.int .i64 2, .int .i64 1, .int .i64 3] 3)).alloc (.cells #[.bool true, .bool true, .bool true] 4)).alloc (.cells #[.slice (some ⟨w1.heap.size, 0, none⟩) 3 3, .slice (some ⟨w1.heap.size + 1, 0, none⟩) 3 3, .int .i64 2, .slice (some ⟨w1.heap.size + 1 + 1, 0, none⟩) 3 3, .slice (some ⟨w1.heap.size + 1 + 1 + 1, 0, none⟩) 3 3, .int .i64 3] 35)) (w1.heap.size + 1) 4 (bools [true, true, true]) := blk_old _ (blk_old _ (blk_old _ (blk_new _ (by simp))))
  have h3 := erow_of (cap := 3) h2 (by decide)
  have h4 : Blk (((((w1.alloc (.cells #[.int .i64 0, .int .i64 1, .int .i64 2] 3)).alloc (.cells #[.bool true, .bool true, .bool true] 4)).alloc (.cells #[.int .i64 2, .int .i64 1, .int .i64 3] 3)).alloc (.cells #[.bool true, .bool true, .bool true] 4)).alloc (.cells #[.slice (some ⟨w1.heap.size, 0, none⟩) 3 3, .slice (some ⟨w1.heap.size + 1, 0, none⟩) 3 3, .int .i64 2, .slice (some ⟨w1.heap.size + 1 + 1, 0, none⟩) 3 3, .slice (some ⟨w1.heap.size + 1 + 1 + 1, 0, none⟩) 3 3, .int .i64 3] 35)) (w1.heap.size + 1 + 1) 3 (ints [2, 1, 3]) := blk_old _ (blk_old _ (blk_new _ (by simp)))
  have h5 := vrow_of (cap := 3) h4 (by decide)
  have h6 : Blk (((((w1.alloc (.cells #[.int .i64 0, .int .i64 1, .int .i64 2] 3)).alloc (.cells #[.bool true, .bool true, .bool true] 4)).alloc (.cells #[.int .i64 2, .int .i64 1, .int .i64 3] 3)).alloc (.cells #[.bool true, .bool true, .bool true] 4)).alloc (.cells #[.slice (some ⟨w1.heap.size, 0, none⟩) 3 3, .slice (some ⟨w1.heap.size + 1, 0, none⟩) 3 3, .int .i64 2, .slice (some ⟨w1.heap.size + 1 + 1, 0, none⟩) 3 3, .slice (some ⟨w1.heap.size + 1 + 1 + 1, 0, none⟩) 3 3, .int .i64 3] 35)) (w1.heap.size + 1 + 1 + 1) 4 (bools [true, true, true]) := blk_old _ (blk_new _ (by simp))
  have h7 := erow_of (cap := 3) h6 (by decide)
  have h8 : Blk (((((w1.alloc (.cells #[.int .i64 0, .int .i64 1, .int .i64 2] 3)).alloc (.cells #[.bool true, .bool true, .bool true] 4)).alloc (.cells #[.int .i64 2, .int .i64 1, .int .i64 3] 3)).alloc (.cells #[.bool true, .bool true, .bool true] 4)).alloc (.cells #[.slice (some ⟨w1.heap.size, 0, none⟩) 3 3, .slice (some ⟨w1.heap.size + 1, 0, none⟩) 3 3, .int .i64 2, .slice (some ⟨w1.heap.size + 1 + 1, 0, none⟩) 3 3, .slice (some ⟨w1.heap.size + 1 + 1 + 1, 0, none⟩) 3 3, .int .i64 3] 35)) (w1.heap.size + 1 + 1 + 1 + 1) 35 [.slice (some ⟨w1.heap.size, 0, none⟩) 3 3, .slice (some ⟨w1.heap.size + 1, 0, none⟩) 3 3, .int .i64 2, .slice (some ⟨w1.heap.size + 1 + 1, 0, none⟩) 3 3, .slice (some ⟨w1.heap.size + 1 + 1 + 1, 0, none⟩) 3 3, .int .i64 3] := blk_new _ (by simp)
  refine .inr ⟨_, 2, rfl, fun i p hp => ?_⟩
  match i, hp with
  | 0, hp =>
    obtain rfl : (⟨[0, 1, 2], [true, true, true], 2⟩ : PrimD) = p := by simpa [exampleF] using hp
    exact ⟨_, _, h8.cell 0, h8.cell 1, h8.cell 2, h1, h3⟩
  | 1, hp =>
    obtain rfl : (⟨[2, 1, 3], [true, true, true], 3⟩ : PrimD) = p := by simpa [exampleF] using hp
    exact ⟨_, _, h8.cell 3, h8.cell 4, h8.cell 5, h5, h7⟩
  | i + 2, hp => simp [exampleF] at hp
theorem a5 (w : World) (a b c d e : Obj) : Below w.heap.size w (((((w.alloc a).alloc b).alloc c).alloc d).alloc e) := by
  repeat refine Below.alloc ?_ (by simp <;> omega) _
  exact Below.refl _ _
theorem count_54 : countF 5 4 = 2 := by decide
set_option maxHeartbeats 4000000 in
set_option maxRecDepth 100000 in
theorem awake_any (w : World) : Calls Try.prog 8 #[] w fun e w' => e = .returned (.bool true) ∧ Below w.heap.size w w' := by
  have hmk := make_bools 4 (by omega)
  obtain ⟨arr, harr⟩ : ∃ arr, Hid (arr = (List.replicate 4 (Value.bool false)).toArray) := ⟨_, rfl⟩
  rw [← harr.out] at hmk
  simp only [show ((4 : Nat) : Int) = 4 from rfl] at hmk
  have hF : FlagR (w.alloc (.cells arr 4)) (some ⟨w.heap.size, 0, none⟩) (List.replicate 4 false) := by rw [harr.out]; exact new_flags 4
  have hp := prims_any 5 (some ⟨w.heap.size, 0, none⟩) 4 (List.replicate 4 false) false (w.alloc (.cells arr 4)) (fun _ => hF)
  rw [List.length_replicate] at hp
  have hpH := hide hp
  clear hp hF
  go_enter Try.func8, Try.ntmps8
  go_wp2_with (go_at_call 99)
  go_at_call 9
  refine hpH.out.mono ?_
  rintro e w1 ⟨v, rfl, hR, hb⟩
  rw [example_prims] at hR
  have hRH := hide hR
  have hbH : Hid (Below w.heap.size w w1) := ((Below.refl w.heap.size w).alloc (Nat.le_refl _) _).trans (hb.mono (by simp))
  have he : errF 5 (List.replicate 4 false).length = 0 := by decide
  rw [he]
  clear hR hb he
  obtain ⟨va, vc, hv⟩ := hRH.out.form
  subst hv
  go_wp2_with (go_at_call 99)
  go_at_call 11
  refine (same_true _ _ exampleF _ (by decide) (by intro p hp; simp only [exampleF, List.mem_cons, List.not_mem_nil, or_false] at hp; rcases hp with rfl | rfl <;> simp) (hRH.out.below (a5 w1 _ _ _ _ _)) (lit_prims w1)).mono ?_
  rintro e w3 ⟨rfl, hb3⟩
  have hb4 : Hid (Below w.heap.size w w3) := (hbH.out.trans ((a5 w1 _ _ _ _ _).mono hbH.out.size)).trans (hb3.mono (by have := hbH.out.size; simp; omega))
  clear hb3
  go_wp2_with (go_at_call 99)
  go_at_call 12
  refine (count_any 5 4 _).mono ?_
  rintro e w4 ⟨rfl, hb5⟩
  rw [count_54]
  have hb6 : Hid (Below w.heap.size w w4) := hb4.out.trans (hb5.mono hb4.out.size)
  clear hb5
  go_wp2_with (go_at_call 99)
  go_ret
  exact ⟨rfl, hb6.out⟩
end Go.Proofs.Ytjcomklheilfjaa.Build
