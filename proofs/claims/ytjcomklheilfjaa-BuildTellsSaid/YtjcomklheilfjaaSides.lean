/- Layer 7: sides: which sides are edges. -/
import Derived.Test.YtjcomklheilfjaaKit
set_option linter.unusedVariables false
set_option linter.unusedSimpArgs false
namespace Go.Proofs.Ytjcomklheilfjaa.Build
open Go.RowKit Go

def sideF (V : List Int) (fs : List Bool) (flagged : Bool) (j : Nat) : Bool := !flagged || fs.getD (V.getD j 0).toNat false
def sidesF (V : List Int) (fs : List Bool) (flagged : Bool) : List Bool := if V.length < 3 then [] else (List.range V.length).map (sideF V fs flagged)
/-- What sides hands back. -/
def EdgeR (B : Nat) (w : World) (v : Value) (E : List Bool) : Prop := (E = [] ∧ v = .slice none 0 0) ∨ (∃ g, (B ≤ g ∧ 0 < E.length) ∧ v = .slice (some ⟨g, 0, none⟩) E.length E.length ∧ Blk w g 4 (bools E))
/-- The flags as they are read. -/
def FlagR (w : World) (fb : Option Addr) (fs : List Bool) : Prop := ∀ m, m < fs.length → ∃ fa, fb = some fa ∧ w.cell? (fa.add m) = some (.bool (fs.getD m false))
theorem sides_short (va : Option Addr) (n capv : Nat) (fb : Option Addr) (fn fcap : Nat) (flagged : Bool) (w : World) (hn : n < 3) :
    Calls Try.prog 16 #[.slice va n capv, .slice fb fn fcap, .bool flagged] w fun e w' => e = .returned (.slice none 0 0) ∧ w' = w := by
  have h : (n : Int) < 3 := by omega
  go_enter Try.func16, Try.ntmps16
  go_wp2
  go_ret
  exact ⟨rfl, rfl⟩
set_option maxHeartbeats 2000000 in
theorem sides_plain (gv capv : Nat) (V : List Int) (fb : Option Addr) (fn fcap : Nat) (w : World) (h3 : 3 ≤ V.length) (hl : V.length ≤ 1000) (hV : ∀ k, k < V.length → w.cell? ⟨gv, k, none⟩ = some (.int .i64 (V.getD k 0))) (f : Nat → Value) (hf : ∀ k, f k = .bool true) :
    Calls Try.prog 16 #[.slice (some ⟨gv, 0, none⟩) V.length capv, .slice fb fn fcap, .bool false] w fun e w' => e = .returned (.slice (some ⟨w.heap.size, 0, none⟩) V.length V.length) ∧ Blk w' w.heap.size 4 ((List.range V.length).map f) ∧ Below w.heap.size w w' := by
  have hnot : ∀ (x : Bool) (w : World), (Op.unary .not (.bool x)).run Try.prog w = .ok (.bool (!x)) w := fun _ _ => rfl
  have h : ¬ (V.length : Int) < 3 := by omega
  have hmk := make_bools V.length (by omega)
  have hgv : gv < w.heap.size := lt_of_cell (p := ⟨gv, 0, none⟩) (hV 0 (by omega))
  have hVH := hide hV
  have hfH := hide hf
  obtain ⟨arr, harr⟩ : ∃ arr, Hid (arr = (List.replicate V.length (Value.bool false)).toArray) := ⟨_, rfl⟩
  rw [← harr.out] at hmk
  have hb0 : Hid (Blk (w.alloc (.cells arr 4)) w.heap.size 4 (fill V.length f (.bool false) 0)) := Blk.new w 4 _ (by rw [harr.out, fill_zero])
  have hB0 : Below w.heap.size w (w.alloc (.cells arr 4)) := (Below.refl _ _).alloc (Nat.le_refl _) _
  clear hV hf
  go_enter Try.func16, Try.ntmps16
  go_wp2
  go_loopw [18] (fun i wr => ∃ k : Nat, k ≤ V.length ∧ i = .int .i64 k ∧ Hid (Blk wr w.heap.size 4 (fill V.length f (.bool false) k)) ∧ Below w.heap.size w wr)
    (fun i _ => V.length - (intOf i).toNat)
  case atStart => exact ⟨0, Nat.zero_le _, rfl, hb0, hB0⟩
  case round =>
    obtain ⟨k, hk, rfl, hblk, hbl⟩ := hrel
    clear hb0 hB0
    rcases Nat.lt_or_ge k V.length with hlt | hge
    · have hlk : (k : Int) < (V.length : Int) := by omega
      obtain ⟨x, hx⟩ : ∃ x, Hid (x = V.getD k 0) := ⟨_, rfl⟩
      have hc : wr.cell? ⟨gv, k, none⟩ = some (.int .i64 x) := by rw [hx.out, hbl.cell (p := ⟨gv, k, none⟩) hgv]; exact hVH.out k hlt
      obtain ⟨u, hu⟩ := fill_get (f := f) (z := .bool false) (k := k) hlt
      have hc2 : wr.cell? ⟨w.heap.size, k, none⟩ = some u := by rw [hblk.out.cell]; exact hu
      have hz2 : wr.frozen? ⟨w.heap.size, k, none⟩ = false := hblk.out.frozen k
      clear hu
      go_wp2
      refine ⟨⟨k + 1, hlt, rfl, ?_, hbl.setCell (p := ⟨w.heap.size, k, none⟩) (Nat.le_refl _) _⟩, ?_⟩
      · unfold Hid
        rw [← fill_set hlt (hfH.out k).symm]
        exact hblk.out.set k _
      · simp [intOf]; omega
    · have hlk : ¬ (k : Int) < (V.length : Int) := by omega
      have hkl : k = V.length := by omega
      go_wp2
      go_ret
      refine ⟨rfl, ?_, hbl⟩
      have := hblk.out
      rw [hkl, fill_all] at this
      exact this
set_option maxHeartbeats 2000000 in
theorem sides_flags (gv capv : Nat) (V : List Int) (fb : Option Addr) (fcap : Nat) (fs : List Bool) (w : World) (h3 : 3 ≤ V.length) (hl : V.length ≤ 1000) (hl2 : fs.length ≤ 1000000) (hV : ∀ k, k < V.length → w.cell? ⟨gv, k, none⟩ = some (.int .i64 (V.getD k 0))) (hF : FlagR w fb fs) (hin : ∀ k, k < V.length → ∃ m : Nat, V.getD k 0 = (m : Int) ∧ m < fs.length) :
    Calls Try.prog 16 #[.slice (some ⟨gv, 0, none⟩) V.length capv, .slice fb fs.length fcap, .bool true] w fun e w' => e = .returned (.slice (some ⟨w.heap.size, 0, none⟩) V.length V.length) ∧ Blk w' w.heap.size 4 ((List.range V.length).map fun j => .bool (sideF V fs true j)) ∧ Below w.heap.size w w' := by
  have hnot : ∀ (x : Bool) (w : World), (Op.unary .not (.bool x)).run Try.prog w = .ok (.bool (!x)) w := fun _ _ => rfl
  have h : ¬ (V.length : Int) < 3 := by omega
  have hmk := make_bools V.length (by omega)
  have hgv : gv < w.heap.size := lt_of_cell (p := ⟨gv, 0, none⟩) (hV 0 (by omega))
  have hVH := hide hV
  have hFH := hide hF
  have hinH := hide hin
  have hl2I : (fs.length : Int) ≤ 1000000 := by omega
  obtain ⟨f, hfH⟩ : ∃ f : Nat → Value, Hid (f = fun j => .bool (sideF V fs true j)) := ⟨_, rfl⟩
  rw [← hfH.out]
  obtain ⟨arr, harr⟩ : ∃ arr, Hid (arr = (List.replicate V.length (Value.bool false)).toArray) := ⟨_, rfl⟩
  rw [← harr.out] at hmk
  have hb0 : Hid (Blk (w.alloc (.cells arr 4)) w.heap.size 4 (fill V.length f (.bool false) 0)) := Blk.new w 4 _ (by rw [harr.out, fill_zero])
  have hB0 : Below w.heap.size w (w.alloc (.cells arr 4)) := (Below.refl _ _).alloc (Nat.le_refl _) _
  clear hV hF hin
  go_enter Try.func16, Try.ntmps16
  go_wp2
  go_loopw [18] (fun i wr => ∃ k : Nat, k ≤ V.length ∧ i = .int .i64 k ∧ Hid (Blk wr w.heap.size 4 (fill V.length f (.bool false) k)) ∧ Below w.heap.size w wr)
    (fun i _ => V.length - (intOf i).toNat)
  case atStart => exact ⟨0, Nat.zero_le _, rfl, hb0, hB0⟩
  case round =>
    obtain ⟨k, hk, rfl, hblk, hbl⟩ := hrel
    clear hb0 hB0
    rcases Nat.lt_or_ge k V.length with hlt | hge
    · have hlk : (k : Int) < (V.length : Int) := by omega
      obtain ⟨m, hm, hmf⟩ := hinH.out k hlt
      have hmH := hide hm
      have hc : wr.cell? ⟨gv, k, none⟩ = some (.int .i64 (m : Int)) := by rw [← hm, hbl.cell (p := ⟨gv, k, none⟩) hgv]; exact hVH.out k hlt
      obtain ⟨fa, hfa, hfc⟩ := hFH.out m hmf
      subst hfa
      obtain ⟨b, hb⟩ : ∃ b, Hid (b = fs.getD m false) := ⟨_, rfl⟩
      have hcf : wr.cell? (fa.add m) = some (.bool b) := by rw [hbl.cell (lt_of_cell hfc), hb.out]; exact hfc
      obtain ⟨u, hu⟩ := fill_get (f := f) (z := .bool false) (k := k) hlt
      have hc2 : wr.cell? ⟨w.heap.size, k, none⟩ = some u := by rw [hblk.out.cell]; exact hu
      have hz2 : wr.frozen? ⟨w.heap.size, k, none⟩ = false := hblk.out.frozen k
      have hmI : (m : Int) < (fs.length : Int) := by omega
      clear hu hm hfc
      go_wp2
      refine ⟨⟨k + 1, hlt, rfl, ?_, hbl.setCell (p := ⟨w.heap.size, k, none⟩) (Nat.le_refl _) _⟩, ?_⟩
      · unfold Hid
        rw [← fill_set hlt (u := .bool b) (by rw [hfH.out, hb.out]; simp only [sideF, hmH.out]; simp)]
        exact hblk.out.set k _
      · simp [intOf]; omega
    · have hlk : ¬ (k : Int) < (V.length : Int) := by omega
      have hkl : k = V.length := by omega
      go_wp2
      go_ret
      refine ⟨rfl, ?_, hbl⟩
      have := hblk.out
      rw [hkl, fill_all] at this
      exact this
theorem sides_any (gv capv : Nat) (V : List Int) (fb : Option Addr) (fcap : Nat) (fs : List Bool) (flagged : Bool) (w : World) (hl : V.length ≤ 1000) (hl2 : fs.length ≤ 1000000) (hV : ∀ k, k < V.length → w.cell? ⟨gv, k, none⟩ = some (.int .i64 (V.getD k 0))) (hF : FlagR w fb fs) (hin : ∀ k, k < V.length → ∃ m : Nat, V.getD k 0 = (m : Int) ∧ m < fs.length) :
    Calls Try.prog 16 #[.slice (some ⟨gv, 0, none⟩) V.length capv, .slice fb fs.length fcap, .bool flagged] w fun e w' => ∃ v, e = .returned v ∧ EdgeR w.heap.size w' v (sidesF V fs flagged) ∧ Below w.heap.size w w' := by
  rcases Nat.lt_or_ge V.length 3 with h3 | h3
  · refine (sides_short _ V.length capv fb _ fcap flagged w h3).mono ?_
    rintro e w' ⟨rfl, rfl⟩
    exact ⟨_, rfl, .inl ⟨by unfold sidesF; rw [if_pos h3], rfl⟩, Below.refl _ _⟩
  · have hlen : (sidesF V fs flagged).length = V.length := by unfold sidesF; rw [if_neg (by omega)]; simp
    have hb : bools (sidesF V fs flagged) = (List.range V.length).map fun j => .bool (sideF V fs flagged j) := by unfold sidesF bools; rw [if_neg (by omega), List.map_map]; rfl
    cases flagged with
    | false =>
      refine (sides_plain gv capv V fb _ fcap w h3 hl hV (fun j => .bool (sideF V fs false j)) (fun k => by simp [sideF])).mono ?_
      rintro e w' ⟨rfl, hblk, hbl⟩
      exact ⟨_, rfl, .inr ⟨w.heap.size, ⟨Nat.le_refl _, by omega⟩, by rw [hlen], by rw [hb]; exact hblk⟩, hbl⟩
    | true =>
      refine (sides_flags gv capv V fb fcap fs w h3 hl hl2 hV hF hin).mono ?_
      rintro e w' ⟨rfl, hblk, hbl⟩
      exact ⟨_, rfl, .inr ⟨w.heap.size, ⟨Nat.le_refl _, by omega⟩, by rw [hlen], by rw [hb]; exact hblk⟩, hbl⟩
end Go.Proofs.Ytjcomklheilfjaa.Build
