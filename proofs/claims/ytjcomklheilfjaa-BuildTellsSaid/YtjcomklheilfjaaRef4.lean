/- Layer 7: the document's polygon; its Prims of any mode; its Count. -/
import Derived.Test.YtjcomklheilfjaaRef3
set_option linter.unusedVariables false
set_option linter.unusedSimpArgs false
namespace Go.Proofs.Ytjcomklheilfjaa.Build
open Go.RowKit Go

theorem ref_neg (mode : Int) (fb : Option Addr) (fcap : Nat) (fs : List Bool) (first : Bool) (w : World) (h : mode < 0) : Calls Try.prog 10 #[.int .i64 mode, .slice fb fs.length fcap, .bool first] w (PrimsPost mode fs first w) := by
  have he : Hid (errF mode fs.length = 1) := by unfold Hid errF; rw [if_pos (.inl h)]
  go_enter Try.func10, Try.ntmps10
  go_wp2_with fail
  go_ret2
  exact ⟨.slice none 0 0, by rw [he.out]; rfl, .inl ⟨by unfold primsA; rw [he.out]; rfl, none, 0, rfl⟩, Below.refl _ _⟩
theorem ref_big (mode : Int) (fb : Option Addr) (fcap : Nat) (fs : List Bool) (first : Bool) (w : World) (h : ¬ mode < 0) (h2 : 9 < mode) : Calls Try.prog 10 #[.int .i64 mode, .slice fb fs.length fcap, .bool first] w (PrimsPost mode fs first w) := by
  have he : Hid (errF mode fs.length = 1) := by unfold Hid errF; rw [if_pos (.inr h2)]
  go_enter Try.func10, Try.ntmps10
  go_wp2_with fail
  go_ret2
  exact ⟨.slice none 0 0, by rw [he.out]; rfl, .inl ⟨by unfold primsA; rw [he.out]; rfl, none, 0, rfl⟩, Below.refl _ _⟩
theorem ref_full (mode : Int) (fb : Option Addr) (fcap : Nat) (fs : List Bool) (first : Bool) (w : World) (h : ¬ mode < 0) (h2 : ¬ 9 < mode) (h3 : 256 < fs.length) : Calls Try.prog 10 #[.int .i64 mode, .slice fb fs.length fcap, .bool first] w (PrimsPost mode fs first w) := by
  have he : Hid (errF mode fs.length = 8) := by unfold Hid errF; rw [if_neg (by omega), if_pos h3]
  have h4 : (256 : Int) < (fs.length : Int) := by omega
  go_enter Try.func10, Try.ntmps10
  go_wp2_with fail
  go_ret2
  exact ⟨.slice none 0 0, by rw [he.out]; rfl, .inl ⟨by unfold primsA; rw [he.out]; rfl, none, 0, rfl⟩, Below.refl _ _⟩
theorem ref_9short (fb : Option Addr) (fcap : Nat) (fs : List Bool) (first : Bool) (w : World) (h3 : fs.length < 3) : Calls Try.prog 10 #[.int .i64 9, .slice fb fs.length fcap, .bool first] w (PrimsPost 9 fs first w) := by
  have he : Hid (errF 9 fs.length = 0) := by unfold Hid errF; rw [if_neg (by omega), if_neg (by omega)]
  have h4 : ¬ (256 : Int) < (fs.length : Int) := by omega
  have h5 : (fs.length : Int) < 3 := by omega
  have hw : Hid (primsA 9 fs first = []) := by unfold Hid primsA; rw [he.out, if_neg (by simp), if_pos rfl]; unfold wholeF; rw [if_pos h3]
  clear h3
  go_enter Try.func10, Try.ntmps10
  go_wp2_with fail
  go_ret2
  exact ⟨.slice none 0 0, by rw [he.out]; rfl, .inl ⟨hw.out, none, 0, rfl⟩, Below.refl _ _⟩
structure PolyInv (w : World) (H : Nat) (fs : List Bool) (k : Nat) (vV vE : Value) (wr : World) : Prop where
  blk : Blk wr H 35 [vV, vE, .int .i64 0]
  own : wr.ownsRow (H + 1) 3 1 vV k (ints (allV k))
  er : ERow wr vE fs
  elt : ∀ g, vE.ownBlock = some g → g < H
  bel : Below w.heap.size w wr
  wH : w.heap.size ≤ H
theorem PolyInv.start {w w5 : World} {fs : List Bool} {va : Option Addr} {vn vc : Nat} (h0 : 0 < fs.length) (hown : w5.ownsRow w.heap.size 4 1 (.slice va vn vc) fs.length (bools fs)) {o : Obj} (hg : (w.alloc o).grownBy w5 (some w.heap.size)) : PolyInv w w5.heap.size fs 0 (.slice none 0 0) (.slice va vn vc) (w5.alloc (.cells #[.slice none 0 0, .slice va vn vc, .int .i64 0] 35)) := by
  have hb : Below w.heap.size w w5 := grown_below (v := .slice (some ⟨w.heap.size, 0, none⟩) 0 0) (Below.refl _ _) (Nat.le_refl _) (fun g hg => by
    have : w.heap.size = g := by simpa [Value.ownBlock] using hg
    omega) hg
  refine ⟨Blk.new w5 35 _ rfl, World.ownsRow_nil _ _ _ _, (owns_erow h0 hown).below ((Below.refl _ _).alloc (Nat.le_refl _) _), fun g hg => (owns_own hown g hg).2, hb.alloc hb.size _, hb.size⟩
theorem PolyInv.more {w wr w6 : World} {H k : Nat} {fs : List Bool} {vV vE v' : Value} (h : PolyInv w H fs k vV vE wr) {o : Obj} (hown : w6.ownsRow (H + 1) 3 1 v' (k + 1) (ints (allV k) ++ [.int .i64 k])) (hg : (wr.alloc o).grownBy w6 vV.ownBlock) : PolyInv w H fs (k + 1) v' vE (w6.setCell ⟨H, 0, none⟩ v') := by
  have hH := h.blk.lt
  have hv : ∀ g, vV.ownBlock = some g → H + 1 ≤ g := fun g hg => (owns_own h.own g hg).1
  have hb : Below (H + 1) wr w6 := grown_below (Below.refl _ _) (by omega) hv hg
  have hb6 : Below w.heap.size w w6 := h.bel.trans (hb.mono (by have := h.wH; omega))
  have e : ints (allV (k + 1)) = ints (allV k) ++ [.int .i64 k] := by simp [ints, allV, List.range_succ]
  have her : ERow w6 vE fs := by
    rcases h.er with h1 | ⟨g, cap, rfl, h0, h1⟩
    · exact .inl h1
    · refine .inr ⟨g, cap, rfl, h0, fun j hj => ?_⟩
      rw [hb.cell (p := ⟨g, j, none⟩) (by have := h.elt g rfl; show g < H + 1; omega)]; exact h1 j hj
  refine ⟨(h.blk.keep hb (by omega)).set 0 v', ?_, erow_set her (fun g hg => by have := h.elt g hg; show g ≠ H; omega), h.elt, hb6.setCell (p := ⟨H, 0, none⟩) h.wH _, h.wH⟩
  rw [e]
  exact ownsRow_setCell_below hown (a := ⟨H, 0, none⟩) (by show H < H + 1; omega) v'
theorem PolyInv.done {w wr w7 : World} {H : Nat} {fs : List Bool} {vV vE v' : Value} {first : Bool} (h3 : 3 ≤ fs.length) (hl : fs.length ≤ 256) (h : PolyInv w H fs fs.length vV vE wr) {o : Obj} (hown : w7.ownsRow w.heap.size 35 3 v' (0 + 1) ([] ++ [vV, vE, .int .i64 0])) (hg : (wr.alloc o).grownBy w7 none) : PrimsR w7 v' (primsA 9 fs first) ∧ Below w.heap.size w w7 := by
  have hb : Below wr.heap.size wr w7 := grown_below (v := .slice none 0 0) (Below.refl _ _) (Nat.le_refl _) (fun g hg => by cases hg) hg
  have he : errF 9 fs.length = 0 := by unfold errF; rw [if_neg (by omega), if_neg (by omega)]
  have hp : primsA 9 fs first = [⟨allV fs.length, fs, 0⟩] := by
    unfold primsA
    rw [he, if_neg (by simp), if_pos rfl]
    unfold wholeF
    rw [if_neg (by omega)]
    have : sidesF (allV fs.length) fs true = fs := by
      unfold sidesF
      rw [allV_len, if_neg (by omega)]
      refine List.ext_getElem (by simp) fun i h1 h2 => ?_
      simp [sideF]
      have hi : (allV fs.length)[i]? = some (i : Int) := by simp [allV, h2]
      rw [hi]
      simp [h2]
    rw [this]
  rw [hp]
  refine ⟨?_, h.bel.trans (hb.mono h.bel.size)⟩
  obtain ⟨a, c, rfl, ha⟩ := owns_form hown
  obtain ⟨g, rfl, _⟩ := ha (by omega)
  refine .inr ⟨g, c, rfl, fun i p hp => ?_⟩
  have hc : ∀ j, j < 3 → w7.cell? ⟨g, j, none⟩ = [vV, vE, .int .i64 0][j]? := fun j hj => by
    have := hown.cellAt j (by omega)
    simpa using this
  have hV : VRow w7 vV (allV fs.length) := by
    have ho := h.own
    obtain ⟨a', c', rfl, ha'⟩ := owns_form ho
    obtain ⟨g', rfl, _⟩ := ha' (by omega)
    refine VRow.below ⟨g', c', by rw [allV_len], by rw [allV_len]; omega, fun j hj => ?_⟩ hb
    rw [allV_len] at hj
    rw [ho.cellAt j (by omega)]
    simp [ints, List.getD_eq_getElem?_getD, allV_len, hj]
  match i, hp with
  | 0, hp =>
    obtain rfl : (⟨allV fs.length, fs, 0⟩ : PrimD) = p := by simpa using hp
    exact ⟨vV, vE, by rw [hc _ (by omega)]; rfl, by rw [hc _ (by omega)]; rfl, by rw [hc _ (by omega)]; rfl, hV, h.er.below hb⟩
  | i + 1, hp => simp at hp
set_option maxHeartbeats 4000000 in
theorem ref_9long (fb : Option Addr) (fcap : Nat) (fs : List Bool) (first : Bool) (w : World) (h3 : 3 ≤ fs.length) (hl : fs.length ≤ 256) (hF : FlagR w fb fs) : Calls Try.prog 10 #[.int .i64 9, .slice fb fs.length fcap, .bool first] w (PrimsPost 9 fs first w) := by
  have he : Hid (errF 9 fs.length = 0) := by unfold Hid errF; rw [if_neg (by omega), if_neg (by omega)]
  have h4 : ¬ (256 : Int) < (fs.length : Int) := by omega
  have h5 : ¬ (fs.length : Int) < 3 := by omega
  have hl1 : (fs.length : Int) ≤ 256 := by omega
  obtain ⟨fa, rfl⟩ : ∃ fa, fb = some fa := by obtain ⟨fa, h, _⟩ := hF 0 (by omega); exact ⟨fa, h⟩
  have hy : Hid (Go.Sx.Reads (w.alloc (.cells #[] 4)) (.slice (some fa) fs.length fcap) fs.length (bools fs)) := by
    refine ⟨some fa, fcap, rfl, by unfold maxLen; omega, fun h => (by cases h), fun j u hj => ⟨fa, rfl, ?_⟩⟩
    have hjl : j < fs.length := by have := (List.getElem?_eq_some_iff.1 hj).1; simpa [bools] using this
    obtain ⟨fa', e, h1⟩ := hF j hjl
    obtain rfl : fa = fa' := by simpa using e
    rw [old_keep h1]
    rw [← hj]
    simp [bools, List.getD_eq_getElem?_getD, hjl]
  have h0 : Hid ((w.alloc (.cells #[] 4)).ownsRow w.heap.size 4 1 (.slice (some ⟨w.heap.size, 0, none⟩) 0 0) 0 []) := World.ownsRow_lit w #[] 0 (Nat.le_refl _) (Nat.zero_le _) rfl
  have h3H := hide h3
  have hlH := hide hl
  clear hF h3 hl
  go_enter Try.func10, Try.ntmps10
  go_wp2_with (first
    | (at_builtin; refine wpList_append_any _ rfl (.tmp 32) (.tmp 33) 22 rfl Try.underlying22 room4 cells4 rfl rfl h0.out hy.out (by simp [bools]) (by intro u hu; simp [bools] at hu; rcases hu with hu | hu <;> obtain ⟨_, rfl⟩ := hu <;> rfl) (by have := hlH.out; omega) (by simp) ?_)
    | (go_at_call 99))
  intro va vn vcc w5 hown5 hg5 hat5
  have hst : Hid (PolyInv w w5.heap.size fs 0 (.slice none 0 0) (.slice va vn vcc) (w5.alloc (.cells #[.slice none 0 0, .slice va vn vcc, .int .i64 0] 35))) := PolyInv.start (by have := h3H.out; omega) hown5 hg5
  clear hown5 hg5 hat5
  go_wp2_with (go_at_call 99)
  go_loopw [10] (fun i wr => ∃ k : Nat, k ≤ fs.length ∧ i = .int .i64 k ∧ ∃ xa xn xc, Hid (PolyInv w w5.heap.size fs k (.slice xa xn xc) (.slice va vn vcc) wr)) (fun i _ => fs.length - (intOf i).toNat)
  case atStart => exact ⟨0, Nat.zero_le _, rfl, none, 0, 0, hst⟩
  case round =>
    obtain ⟨k, hk, rfl, xa, xn, xc, hinv⟩ := hrel
    clear hst
    have x0 : wr.cell? ⟨w5.heap.size, 0, none⟩ = some (.slice xa xn xc) := hinv.out.blk.cell 0
    have z0 : wr.frozen? ⟨w5.heap.size, 0, none⟩ = false := hinv.out.blk.frozen 0
    have hlt5 := hinv.out.blk.lt
    rcases Nat.lt_or_ge k fs.length with hlt | hge
    · have hlk : (k : Int) < (fs.length : Int) := by omega
      go_wp2_with (first
        | (at_builtin; refine wpList_append_any _ rfl (.tmp 43) (.tmp 45) 33 rfl Try.underlying33 room3 cells3 rfl rfl (hinv.out.own.alloc _) (reads_blk _ 1 1 rfl rfl (by omega)) rfl (by intro u hu; simp at hu; subst hu; rfl) (by omega) (by simp; omega) ?_)
        | (go_at_call 99))
      intro ya yn yc w6 hown6 hg6 hat6
      have hmore : Hid (PolyInv w w5.heap.size fs (k + 1) (.slice ya yn yc) (.slice va vn vcc) (w6.setCell ⟨w5.heap.size, 0, none⟩ (.slice ya yn yc))) := hinv.out.more hown6 hg6
      have hb6 : Below (w5.heap.size + 1) wr w6 := grown_below (Below.refl _ _) (by omega) (fun g hg => (owns_own hinv.out.own g hg).1) hg6
      have x6 : w6.cell? ⟨w5.heap.size, 0, none⟩ = some (.slice xa xn xc) := by rw [hb6.cell (p := ⟨w5.heap.size, 0, none⟩) (by show w5.heap.size < w5.heap.size + 1; omega)]; exact x0
      have z6 : w6.frozen? ⟨w5.heap.size, 0, none⟩ = false := (hinv.out.blk.keep hb6 (by omega)).frozen 0
      clear hown6 hg6 hat6 hb6 x0 z0
      go_wp2_with (go_at_call 99)
      exact ⟨⟨k + 1, hlt, rfl, _, _, _, hmore⟩, by simp [intOf]; omega⟩
    · have hlk : ¬ (k : Int) < (fs.length : Int) := by omega
      obtain rfl : k = fs.length := by omega
      have x1 : wr.cell? ⟨w5.heap.size, 1, none⟩ = some (.slice va vn vcc) := hinv.out.blk.cell 1
      have x2 : wr.cell? ⟨w5.heap.size, 2, none⟩ = some (.int .i64 0) := hinv.out.blk.cell 2
      have hsz : w.heap.size ≤ wr.heap.size := hinv.out.bel.size
      clear z0 hk hge
      go_wp2_with (first
        | (at_builtin; refine wpList_append_any _ rfl (.tmp 48) (.tmp 50) 24 rfl Try.underlying24 room35 cells35 rfl rfl (World.ownsRow_nil _ w.heap.size _ _) (reads_blk _ 1 1 rfl rfl (by omega)) rfl (by intro u hu; simp at hu; rcases hu with rfl | rfl | rfl <;> rfl) (by omega) (by simp; omega) ?_)
        | (go_at_call 99))
      intro ya yn yc w7 hown7 hg7 hat7
      have hend := hide (hinv.out.done (first := first) h3H.out hlH.out hown7 hg7)
      clear hown7 hg7 hat7
      go_wp2_with (go_at_call 99)
      go_ret2
      exact ⟨.slice ya yn yc, by rw [he.out]; rfl, hend.out⟩
theorem ref_any (mode : Int) (fb : Option Addr) (fcap : Nat) (fs : List Bool) (first : Bool) (w : World) (hF : fs.length ≤ 256 → FlagR w fb fs) : Calls Try.prog 10 #[.int .i64 mode, .slice fb fs.length fcap, .bool first] w (PrimsPost mode fs first w) := by
  by_cases h : mode < 0
  · exact ref_neg mode fb fcap fs first w h
  by_cases h2 : 9 < mode
  · exact ref_big mode fb fcap fs first w h h2
  rcases Nat.lt_or_ge 256 fs.length with h3 | h3
  · exact ref_full mode fb fcap fs first w h h2 h3
  by_cases h9 : mode = 9
  · subst h9
    rcases Nat.lt_or_ge fs.length 3 with h4 | h4
    · exact ref_9short fb fcap fs first w h4
    · exact ref_9long fb fcap fs first w h4 h3 (hF h3)
  obtain ⟨m, rfl⟩ : ∃ m : Nat, mode = m := ⟨mode.toNat, by omega⟩
  have hm : m < 9 := by omega
  refine (ref_m m hm fb fcap fs first w h3 (hF h3) (refC m fs.length) (ref_ok m fs hm h3) (fun h5 h6 => by subst h5; unfold refC; simp; omega)).mono ?_
  rintro e w' ⟨v, rfl, hR, hb⟩
  have he : errF m fs.length = 0 := by unfold errF; rw [if_neg (by omega), if_neg (by omega)]
  refine ⟨v, by rw [he], ?_, hb⟩
  unfold primsA
  rw [if_neg (by rw [he]; simp), if_neg (by omega), Int.toNat_natCast]
  rw [prims_same m fs first hm h3] at hR
  exact hR
set_option maxHeartbeats 2000000 in
theorem refcount_in (mode : Int) (n : Nat) (w : World) (h1 : 1 ≤ n) (h2 : n ≤ 256) : Calls Try.prog 13 #[.int .i64 mode, .int .i64 n] w (CountPost mode n w) := by
  have hc : ((primsA mode (List.replicate n false) false).length : Int) = countF mode n := by
    by_cases h3 : mode < 0 ∨ 9 < mode
    · have : countF mode n = 0 := by unfold countF; rw [if_pos (by omega)]
      rw [this]
      have he : errF mode (List.replicate n false).length = 1 := by unfold errF; rw [if_pos (by omega)]
      unfold primsA; rw [if_pos (by rw [he]; simp)]; rfl
    · exact (prims_len mode n false (List.replicate n false) (by simp) (by omega) (by omega) h1 h2).1
  have h1I : ¬ (n : Int) < 1 := by omega
  have h2I : ¬ 256 < (n : Int) := by omega
  have hmk := make_bools n (by omega)
  obtain ⟨arr, harr⟩ : ∃ arr, Hid (arr = (List.replicate n (Value.bool false)).toArray) := ⟨_, rfl⟩
  rw [← harr.out] at hmk
  obtain ⟨C, hC⟩ : ∃ C, Hid (C = (primsA mode (List.replicate n false) false).length) := ⟨_, rfl⟩
  rw [← hC.out] at hc
  have hcH := hide hc
  have hp : Hid (Calls Try.prog 10 #[.int .i64 mode, .slice (some ⟨w.heap.size, 0, none⟩) n n, .bool false] (w.alloc (.cells arr 4)) fun e w' => ∃ va vc ve, e = .returned (.tuple #[.slice va C vc, .int .i64 ve]) ∧ Below (w.alloc (.cells arr 4)).heap.size (w.alloc (.cells arr 4)) w') := by
    have h := ref_any mode (some ⟨w.heap.size, 0, none⟩) n (List.replicate n false) false (w.alloc (.cells arr 4)) (fun _ => by rw [harr.out]; exact new_flags n)
    rw [List.length_replicate] at h
    refine h.mono ?_
    rintro e w' ⟨v, rfl, hR, hb⟩
    obtain ⟨va, vc, rfl⟩ := hR.form
    exact ⟨va, vc, _, by rw [hC.out], hb⟩
  clear hc h1 h2
  go_enter Try.func13, Try.ntmps13
  go_wp2_with (go_at_call 99)
  go_at_call 10
  refine hp.out.mono ?_
  rintro e w2 ⟨va, vc, ve, rfl, hb2⟩
  have hb3 : Hid (Below w.heap.size w w2) := ((Below.refl w.heap.size w).alloc (Nat.le_refl _) _).trans (hb2.mono (by simp))
  clear hb2
  go_wp2_with (go_at_call 99)
  go_ret
  exact ⟨by rw [hcH.out]; rfl, hb3.out⟩
theorem refcount_out (mode n : Int) (w : World) (h : n < 1 ∨ 256 < n) : Calls Try.prog 13 #[.int .i64 mode, .int .i64 n] w (CountPost mode n w) := by
  have h0 : Hid (countF mode n = 0) := by unfold Hid countF; rw [if_pos (by omega)]
  by_cases h1 : n < 1
  · clear h
    go_enter Try.func13, Try.ntmps13
    go_wp2_with (go_at_call 99)
    go_ret
    exact ⟨by rw [h0.out]; rfl, Below.refl _ _⟩
  · have h2 : 256 < n := by omega
    clear h
    go_enter Try.func13, Try.ntmps13
    go_wp2_with (go_at_call 99)
    go_ret
    exact ⟨by rw [h0.out]; rfl, Below.refl _ _⟩
theorem refcount_any (mode n : Int) (w : World) : Calls Try.prog 13 #[.int .i64 mode, .int .i64 n] w (CountPost mode n w) := by
  by_cases h : n < 1 ∨ 256 < n
  · exact refcount_out mode n w h
  · obtain ⟨k, rfl⟩ : ∃ k : Nat, n = k := ⟨n.toNat, by omega⟩
    exact refcount_in mode k w (by omega) (by omega)
end Go.Proofs.Ytjcomklheilfjaa.Build
