/- Layer 7: the document's answer: greatest, all, pick, walked. -/
import Derived.Test.YtjcomklheilfjaaCounts
set_option linter.unusedVariables false
set_option linter.unusedSimpArgs false
namespace Go.Proofs.Ytjcomklheilfjaa.Build
open Go.RowKit Go

theorem owns_own {w : World} {B : Nat} {e : TypeId} {sz : Nat} {v : Value} {n : Nat} {xs : List Value} (h : w.ownsRow B e sz v n xs) : ∀ g, v.ownBlock = some g → B ≤ g ∧ g < w.heap.size := by
  rcases h.2 with ⟨rfl, _⟩ | ⟨g, cap, cur, rfl, hg, hh, r⟩
  · intro g hg; cases hg
  · intro x hx
    have : g = x := by simpa [Value.ownBlock] using hx
    subst this
    exact ⟨hg, (Array.getElem?_eq_some_iff.1 hh).1⟩
theorem owns_form {w : World} {B : Nat} {e : TypeId} {sz : Nat} {v : Value} {n : Nat} {xs : List Value} (h : w.ownsRow B e sz v n xs) : ∃ a c, v = .slice a n c ∧ (0 < n → ∃ g, a = some ⟨g, 0, none⟩ ∧ B ≤ g) := by
  rcases h.2 with ⟨rfl, rfl⟩ | ⟨g, cap, cur, rfl, hg, hh, r⟩
  · exact ⟨none, 0, rfl, fun h => absurd h (by omega)⟩
  · exact ⟨_, cap, rfl, fun _ => ⟨g, rfl, hg⟩⟩
theorem grown_below {B : Nat} {w wr w5 : World} {o : Obj} {v : Value} (h : Below B w wr) (hB : B ≤ w.heap.size) (hv : ∀ g, v.ownBlock = some g → B ≤ g) (hg : (wr.alloc o).grownBy w5 v.ownBlock) : Below B w w5 := by
  have hs := h.size
  refine h.trans ⟨hg.os.trans rfl, hg.tape.trans rfl, hg.output.trans rfl, by have := hg.size; simp at this; omega, fun k hk => ?_⟩
  rw [hg.block k (by simp; omega) (fun e => by have := hv k e.symm; omega)]
  exact Below.heap_alloc _ _ _ (by omega)
theorem owns_erow {w : World} {B : Nat} {v : Value} {E : List Bool} (h0 : 0 < E.length) (h : w.ownsRow B 4 1 v E.length (bools E)) : ERow w v E := by
  have h' := h
  rcases h'.2 with ⟨rfl, h1⟩ | ⟨g, cap, cur, rfl, hg, hh, r⟩
  · omega
  · exact .inr ⟨g, cap, rfl, h0, fun k hk => by rw [h.cellAt k (by omega)]; simp [bools, List.getD_eq_getElem?_getD, hk]⟩
def maxF (V : List Int) : Nat → Int
  | 0 => 0
  | k + 1 => max (maxF V k) (V.getD k 0)
set_option maxHeartbeats 2000000 in
theorem greatest_any (gv cap : Nat) (V : List Int) (w : World) (hl : V.length ≤ 1000) (hV : ∀ k, k < V.length → w.cell? ⟨gv, k, none⟩ = some (.int .i64 (V.getD k 0))) :
    Calls Try.prog 18 #[.slice (some ⟨gv, 0, none⟩) V.length cap] w fun e w' => e = .returned (.int .i64 (maxF V V.length)) ∧ Below w.heap.size w w' := by
  have hVH := hide hV
  have hst : Hid (Below w.heap.size w w) := Below.refl _ _
  have hlI : (V.length : Int) ≤ 1000 := by omega
  clear hV
  go_enter Try.func18, Try.ntmps18
  go_wp2_with (go_at_call 99)
  go_loopw [3, 4] (fun x i wr => ∃ k : Nat, k ≤ V.length ∧ x = .int .i64 (maxF V k) ∧ i = .int .i64 k ∧ Hid (Below w.heap.size w wr)) (fun _ i _ => V.length - (intOf i).toNat)
  case atStart => exact ⟨0, Nat.zero_le _, rfl, rfl, hst⟩
  case round =>
    obtain ⟨k, hk, rfl, rfl, hbl⟩ := hrel
    clear hst
    rcases Nat.lt_or_ge k V.length with hlt | hge
    · have hlk : (k : Int) < (V.length : Int) := by omega
      obtain ⟨x, hx⟩ : ∃ x, Hid (x = V.getD k 0) := ⟨_, rfl⟩
      obtain ⟨y, hy⟩ : ∃ x, Hid (x = maxF V k) := ⟨_, rfl⟩
      have hc := keep_cell hbl.out (hVH.out k hlt)
      rw [← hx.out] at hc
      rw [← hy.out]
      have hn : Hid (maxF V (k + 1) = max y x) := by rw [hy.out, hx.out]; rfl
      go_wp2_with fail
      exact ⟨⟨k + 1, hlt, by rw [hn.out, Int.max_def]; congr 1; split <;> split <;> omega, rfl, hbl⟩, by simp [intOf]; omega⟩
    · have hlk : ¬ (k : Int) < (V.length : Int) := by omega
      have hkl : k = V.length := by omega
      go_wp2_with fail
      go_ret
      exact ⟨rfl, hbl.out⟩
set_option maxHeartbeats 2000000 in
theorem all_any (n : Nat) (w : World) (h1 : 1 ≤ n) (hl : n ≤ 1000) :
    Calls Try.prog 19 #[.int .i64 n] w fun e w' => ∃ ea en ec, e = .returned (.slice ea en ec) ∧ ERow w' (.slice ea en ec) (List.replicate n true) ∧ (∀ g, (Value.slice ea en ec).ownBlock = some g → w.heap.size ≤ g) ∧ Below w.heap.size w w' := by
  have hlI : (n : Int) ≤ 1000 := by omega
  have h1H := hide h1
  clear h1
  have hst : Hid (w.ownsRow w.heap.size 4 1 (.slice none 0 0) 0 (bools (List.replicate 0 true))) := World.ownsRow_nil _ _ _ _
  have hb0 : Hid (Below w.heap.size w w) := Below.refl _ _
  go_enter Try.func19, Try.ntmps19
  go_wp2_with (go_at_call 99)
  go_loopw [3, 4] (fun x i wr => ∃ k : Nat, k ≤ n ∧ i = .int .i64 k ∧ Hid (wr.ownsRow w.heap.size 4 1 x k (bools (List.replicate k true))) ∧ Hid (Below w.heap.size w wr)) (fun _ i _ => n - (intOf i).toNat)
  case atStart => exact ⟨0, Nat.zero_le _, rfl, hst, hb0⟩
  case round =>
    obtain ⟨k, hk, rfl, hown, hbl⟩ := hrel
    clear hst hb0
    rcases Nat.lt_or_ge k n with hlt | hge
    · have hlk : (k : Int) < (n : Int) := by omega
      have hsz := hbl.out.size
      go_wp2_with (first
        | (at_builtin; refine wpList_append_any _ rfl (.tmp 10) (.tmp 11) 22 rfl Try.underlying22 room4 cells4 rfl rfl (hown.out.alloc _) (reads_blk _ 1 1 rfl rfl (by omega)) rfl (by intro u hu; simp at hu; subst hu; rfl) (by omega) (by simp; omega) ?_)
        | (go_at_call 99))
      intro va vn vcc w5 hown5 hg5 hat5
      have hb5 : Hid (Below w.heap.size w w5) := grown_below hbl.out (Nat.le_refl _) (fun g hg => (owns_own hown.out g hg).1) hg5
      have hown6 : Hid (w5.ownsRow w.heap.size 4 1 (.slice va vn vcc) (k + 1) (bools (List.replicate (k + 1) true))) := by
        unfold Hid
        have e : bools (List.replicate (k + 1) true) = bools (List.replicate k true) ++ [.bool true] := by simp [bools, List.replicate_succ']
        rw [e]; exact hown5
      clear hown5 hg5 hat5
      go_wp2_with (go_at_call 99)
      exact ⟨⟨k + 1, hlt, rfl, hown6, hb5⟩, by simp [intOf]; omega⟩
    · have hlk : ¬ (k : Int) < (n : Int) := by omega
      have hkl : k = n := by omega
      subst hkl
      obtain ⟨a, c, hv, _⟩ := owns_form hown.out
      subst hv
      go_wp2_with fail
      go_ret
      exact ⟨_, _, _, rfl, owns_erow (by rw [List.length_replicate]; exact h1H.out) (by rw [List.length_replicate]; exact hown.out), fun g hg => (owns_own hown.out g hg).1, hbl.out⟩
set_option maxHeartbeats 2000000 in
theorem pick_any (fb : Option Addr) (fcap : Nat) (fs : List Bool) (gv cap : Nat) (V : List Int) (w : World) (h1 : 1 ≤ V.length) (hl : V.length ≤ 1000) (hl2 : fs.length ≤ 1000) (hV : ∀ k, k < V.length → w.cell? ⟨gv, k, none⟩ = some (.int .i64 (V.getD k 0))) (hF : FlagR w fb fs) (hin : ∀ k, k < V.length → ∃ m : Nat, V.getD k 0 = (m : Int) ∧ m < fs.length) :
    Calls Try.prog 20 #[.slice fb fs.length fcap, .slice (some ⟨gv, 0, none⟩) V.length cap] w fun e w' => ∃ ea en ec, e = .returned (.slice ea en ec) ∧ ERow w' (.slice ea en ec) ((List.range V.length).map (sideF V fs true)) ∧ (∀ g, (Value.slice ea en ec).ownBlock = some g → w.heap.size ≤ g) ∧ Below w.heap.size w w' := by
  have hlI : (V.length : Int) ≤ 1000 := by omega
  have hl2I : (fs.length : Int) ≤ 1000 := by omega
  have h1H := hide h1
  clear h1
  have hVH := hide hV
  have hFH := hide hF
  have hinH := hide hin
  have hst : Hid (w.ownsRow w.heap.size 4 1 (.slice none 0 0) 0 (bools ((List.range 0).map (sideF V fs true)))) := World.ownsRow_nil _ _ _ _
  have hb0 : Hid (Below w.heap.size w w) := Below.refl _ _
  clear hV hF hin
  go_enter Try.func20, Try.ntmps20
  go_wp2_with (go_at_call 99)
  go_loopw [5, 6] (fun x i wr => ∃ k : Nat, k ≤ V.length ∧ i = .int .i64 k ∧ Hid (wr.ownsRow w.heap.size 4 1 x k (bools ((List.range k).map (sideF V fs true)))) ∧ Hid (Below w.heap.size w wr)) (fun _ i _ => V.length - (intOf i).toNat)
  case atStart => exact ⟨0, Nat.zero_le _, rfl, hst, hb0⟩
  case round =>
    obtain ⟨k, hk, rfl, hown, hbl⟩ := hrel
    clear hst hb0
    rcases Nat.lt_or_ge k V.length with hlt | hge
    · have hlk : (k : Int) < (V.length : Int) := by omega
      have hsz := hbl.out.size
      obtain ⟨m, hm, hmf⟩ := hinH.out k hlt
      have hmH := hide hm
      have hc := keep_cell hbl.out (hVH.out k hlt)
      rw [hmH.out] at hc
      obtain ⟨fa, hfa, hfc⟩ := hFH.out m hmf
      have hcf := keep_cell hbl.out hfc
      subst hfa
      obtain ⟨b, hb⟩ : ∃ b, Hid (b = fs.getD m false) := ⟨_, rfl⟩
      rw [← hb.out] at hcf
      have hmI : (m : Int) < (fs.length : Int) := by omega
      have hsd : Hid (sideF V fs true k = b) := by unfold Hid sideF; rw [hmH.out, hb.out]; simp
      clear hm hfc
      go_wp2_with (first
        | (at_builtin; refine wpList_append_any _ rfl (.tmp 13) (.tmp 21) 22 rfl Try.underlying22 room4 cells4 rfl rfl (hown.out.alloc _) (reads_blk _ 1 1 rfl rfl (by omega)) rfl (by intro u hu; simp at hu; subst hu; rfl) (by omega) (by simp; omega) ?_)
        | (go_at_call 99))
      intro va vn vcc w5 hown5 hg5 hat5
      have hb5 : Hid (Below w.heap.size w w5) := grown_below hbl.out (Nat.le_refl _) (fun g hg => (owns_own hown.out g hg).1) hg5
      have hown6 : Hid (w5.ownsRow w.heap.size 4 1 (.slice va vn vcc) (k + 1) (bools ((List.range (k + 1)).map (sideF V fs true)))) := by
        unfold Hid
        have e : bools ((List.range (k + 1)).map (sideF V fs true)) = bools ((List.range k).map (sideF V fs true)) ++ [.bool b] := by simp [bools, List.range_succ, hsd.out]
        rw [e]; exact hown5
      clear hown5 hg5 hat5
      go_wp2_with (go_at_call 99)
      exact ⟨⟨k + 1, hlt, rfl, hown6, hb5⟩, by simp [intOf]; omega⟩
    · have hlk : ¬ (k : Int) < (V.length : Int) := by omega
      have hkl : k = V.length := by omega
      subst hkl
      obtain ⟨a, c, hv, _⟩ := owns_form hown.out
      subst hv
      go_wp2_with fail
      go_ret
      exact ⟨_, _, _, rfl, owns_erow (by rw [List.length_map, List.length_range]; exact h1H.out) (by rw [List.length_map, List.length_range]; exact hown.out), fun g hg => (owns_own hown.out g hg).1, hbl.out⟩
end Go.Proofs.Ytjcomklheilfjaa.Build
