/- Layer 3: the law GuardPlays, walked. -/
import Derived.Test.YtfdpnmohpdekiaaSame
import Derived.Test.YtfdpnmohpdekiaaEach2
set_option linter.unusedVariables false
set_option linter.unusedSimpArgs false
namespace Go.Proofs.Ytfdpnmohpdekiaa.Guard
open Go.RowKit Go

theorem ref_all (n : Nat) : ∀ l : List (List Int), l.length = n → 0 < l.length → RefOk l := by
  induction n using Nat.strongRecOn with
  | ind n ih => exact fun l hl hpos => ref_any l hpos fun l' h1 h2 => ih l'.length (by omega) l' rfl h2
theorem play_v {l : List (List Int)} {bs : Option Addr} {cap : Nat} {po : Addr} {v : Value} {B : Nat} {acc : List Int} {W : World} (hcap : l.length ≤ cap) (hlen : acc.length + l.length ≤ 1000)
    (hb : 0 < l.length → ∃ base, bs = some base ∧ ActCells W base l ∧ base.block ≠ po.block ∧ v.ownBlock ≠ some base.block) (hpo : W.cell? po = some v) (hfr : W.frozen? po = false) (hown : W.ownsRow B 3 1 v acc.length (ints acc)) (hB : B ≤ W.heap.size) (hvp : v.ownBlock ≠ some po.block) :
    Calls Try.prog 9 #[.slice bs l.length cap, .pointer (some po)] W fun e w' => e = endOf (plays l).2 ∧ After po v B acc W (plays l) w' := by
  rcases Nat.eq_zero_or_pos l.length with h0 | h0
  · have hl : l = [] := List.eq_nil_of_length_eq_zero h0
    subst hl
    exact play_nil bs cap po v B acc W hpo hfr hown
  · obtain ⟨base, rfl, h1, h2, h3⟩ := hb h0
    exact play_all _ l rfl h0 base cap po v B acc W hcap hlen h1 h2 h3 hpo hfr hown hB hvp
theorem ref_v {l : List (List Int)} {bs : Option Addr} {cap : Nat} {W : World} (hcap : l.length ≤ cap) (hlen : l.length ≤ 1000) (hb : 0 < l.length → ∃ base, bs = some base ∧ ActCells W base l) : Calls Try.prog 10 #[.slice bs l.length cap] W (RefPost W (plays l)) := by
  rcases Nat.eq_zero_or_pos l.length with h0 | h0
  · have hl : l = [] := List.eq_nil_of_length_eq_zero h0
    subst hl
    exact ref_nil bs cap W
  · obtain ⟨base, rfl, h1⟩ := hb h0
    exact ref_all _ l rfl h0 base cap W hcap hlen h1
theorem outer_closure {sv : Value} {po pl : Addr} {w : World} {R : Ending → World → Prop} (hin : w.cell? pl = some sv)
    (h9 : Calls Try.prog 9 #[sv, .pointer (some po)] w fun e w' => (e = .returned (.tuple #[]) ∨ ∃ c, e = .panicked c) ∧ R e w') : Calls Try.prog 8 #[.pointer (some pl), .pointer (some po)] w R := by
  go_enter Try.func8, Try.ntmps8
  go_wp2_with (go_at_call 9; refine h9.mono ?_; rintro e w1 ⟨(rfl | ⟨c, rfl⟩), hR⟩)
  · go_end0
    exact hR
  · exact ⟨rfl, hR⟩
theorem try_outer {sv : Value} {po pl : Addr} {v : Value} {B : Nat} {acc : List Int} {w : World} {r : List Int × Option Int} (hin : w.cell? pl = some sv) (hpo : po.block < w.heap.size) (hv : ∀ g, v.ownBlock = some g → g < w.heap.size)
    (h9 : Calls Try.prog 9 #[sv, .pointer (some po)] (w.alloc (.cells #[.int .i64 0] 25)) fun e w' => e = endOf r.2 ∧ After po v B acc (w.alloc (.cells #[.int .i64 0] 25)) r w') :
    Calls Try.prog 7 #[.func (.func 8) #[] #[.pointer (some pl), .pointer (some po)]] w fun e w' => e = .returned (.int .i64 (r.2.getD 0)) ∧ After po v B acc w r w' := by
  obtain ⟨n1, n2⟩ := new_cell w #[.int .i64 0] 25 (.int .i64 0) rfl
  have e1 : (w.alloc (.cells #[.int .i64 0] 25)).heap.size = w.heap.size + 1 := by simp
  refine (try_own (cl := 8) (caps := #[.pointer (some pl), .pointer (some po)]) (P0 := fun w2 => r.2 = none ∧ After po v B acc (w.alloc (.cells #[.int .i64 0] 25)) r w2) (P1 := fun c w2 => r.2 = some c ∧ After po v B acc (w.alloc (.cells #[.int .i64 0] 25)) r w2) (fun _ => rfl)
    (outer_closure (by rw [old_cell (lt_of_cell hin)]; exact hin) (h9.mono ?_))).mono ?_
  · rintro e w2 ⟨rfl, ha⟩
    refine ⟨end_form _, ?_, ?_⟩
    · obtain ⟨v', _, _, _, ht⟩ := ha
      have h1 : (⟨w.heap.size, 0, none⟩ : Addr).block < (w.alloc (.cells #[.int .i64 0] 25)).heap.size := by simp
      have h2 : (⟨w.heap.size, 0, none⟩ : Addr).block ≠ po.block := by simp only; omega
      have h3 : v.ownBlock ≠ some (⟨w.heap.size, 0, none⟩ : Addr).block := fun e => by have := hv _ e; simp only at this; omega
      exact ⟨by rw [ht.cell h1 h2 h3]; exact n1, by rw [ht.frozen h1 h2 h3]; exact n2⟩
    · cases hr : r.2 with
      | none => exact .inl ⟨rfl, rfl, ha⟩
      | some c => exact .inr ⟨c, rfl, rfl, ha⟩
  · have key : ∀ w2 w', Only w.heap.size w2 w' → After po v B acc (w.alloc (.cells #[.int .i64 0] 25)) r w2 → After po v B acc w r w' := by
      rintro w2 w' ho ⟨v', c1, c2, c3, ht⟩
      have hp2 := lt_of_cell c1
      have hs := ht.size
      have hvne : ∀ g, v'.ownBlock = some g → g ≠ w.heap.size := fun g hg e => by
        rcases ht.own g hg with h | h
        · have := hv g h; omega
        · omega
      refine ⟨v', ?_, ?_, owns_keep c3 (fun g hg => ho.block g (owns_lt c3 hg) (hvne g hg)), ?_⟩
      · rw [World.cell?_of_block (w := w2) (ho.block _ hp2 (by omega))]; exact c1
      · rw [World.frozen?_of_block (w := w2) (ho.block _ hp2 (by omega))]; exact c2
      · refine ⟨ho.os.trans ht.os, ho.tape.trans ht.tape, ho.output.trans ht.output, by have := ho.size; omega, fun k hk hkp hkv => ?_, fun g hg => ?_⟩
        · rw [ho.block k (by omega) (by omega), ht.block k (by omega) hkp hkv]
          exact Below.heap_alloc _ _ _ hk
        · rcases ht.own g hg with h | h
          · exact .inl h
          · right; omega
    rintro e w' ⟨w2, ho, (⟨rfl, hr, ha⟩ | ⟨c, rfl, hr, ha⟩)⟩
    · exact ⟨by rw [hr]; rfl, key w2 w' ho ha⟩
    · exact ⟨by rw [hr]; rfl, key w2 w' ho ha⟩
theorem guardPlays_long (bs : Option Addr) (n cap : Nat) (w : World) (hn : 60 < n) :
    Calls Try.prog 3 #[.slice bs n cap] w fun e w' => e = .returned (.bool true) ∧ Below w.heap.size w w' := by
  have hlt : (60 : Int) < (n : Int) := by omega
  go_enter Try.func3, Try.ntmps3
  go_wp2_with (go_at_call 6; refine (awake_any _).mono ?_; rintro e w1 ⟨rfl, hb1⟩)
  go_ret
  exact ⟨rfl, ((Below.refl w.heap.size w).alloc (Nat.le_refl _) _).trans (hb1.mono (by simp))⟩

set_option maxHeartbeats 2000000 in
theorem guardPlays_any (bs : Option Addr) (cap : Nat) (l : List (List Int)) (w : World) (hcap : l.length ≤ cap) (hl : l.length ≤ 60) (hb : 0 < l.length → ∃ base, bs = some base ∧ ActCells w base l) :
    Calls Try.prog 3 #[.slice bs l.length cap] w fun e w' => e = .returned (.bool true) ∧ Below w.heap.size w w' := by
  have hlt : ¬ (60 : Int) < (l.length : Int) := by omega
  have hmf : ∀ (fn : Fn) (first cap : Array Value) (w : World), (Instr.makeFunc fn first cap).run Try.prog w = .ok (.func fn first cap) w := fun _ _ _ _ => rfl
  have hnot : ∀ (x : Bool) (w : World), (Op.unary .not (.bool x)).run Try.prog w = .ok (.bool (!x)) w := fun _ _ => rfl
  have hbH : Hid (0 < l.length → ∃ base, bs = some base ∧ ActCells w base l) := hb
  clear hb
  go_enter Try.func3, Try.ntmps3
  go_wp2_with (go_at_call 6; refine (awake_any _).mono ?_; rintro e w1 ⟨rfl, hb1⟩)
  obtain ⟨hs, hbw, c1⟩ := one_box hb1
  obtain ⟨n1, n2⟩ := new_cell w1 #[.slice none 0 0] 24 _ rfl
  have c2 : (w1.alloc (.cells #[.slice none 0 0] 24)).cell? ⟨w.heap.size, 0, none⟩ = some (.slice bs l.length cap) := by rw [old_cell (lt_of_cell c1)]; exact c1
  have e1 : (w1.alloc (.cells #[.slice none 0 0] 24)).heap.size = w1.heap.size + 1 := by simp
  have hacts : ∀ (W : World), Below w.heap.size w W → 0 < l.length → ∃ base, bs = some base ∧ ActCells W base l ∧ base.block < w.heap.size := fun W hW h0 => by
    obtain ⟨base, rfl, hc⟩ := hbH.out h0
    have hlt := lt_of_cell (hc 0 h0 0 (by omega))
    rw [add_block] at hlt
    exact ⟨base, rfl, hc.below hW h0, hlt⟩
  have hbO : Below w.heap.size w (w1.alloc (.cells #[.slice none 0 0] 24)) := hbw.alloc (by omega) _
  have hacts2 := hacts _ (hbO.alloc (by simp; omega) (.cells #[.int .i64 0] 25))
  go_at_call 7
  refine (try_outer (r := plays l) (v := .slice none 0 0) (B := w1.heap.size) (acc := []) (po := ⟨w1.heap.size, 0, none⟩) (pl := ⟨w.heap.size, 0, none⟩) c2 (by simp) (fun g hg => by cases hg)
    (play_v hcap (by simp; omega) (fun h0 => by
      obtain ⟨base, e, hc, hlt⟩ := hacts2 h0
      exact ⟨base, e, hc, by simp only; omega, fun e => by cases e⟩) (by rw [old_cell (lt_of_cell n1)]; exact n1) (by rw [old_frozen (lt_of_cell n1)]; exact n2) (World.ownsRow_nil _ _ _ _) (by simp; omega) (fun e => by cases e))).mono ?_
  rintro e w2 ⟨rfl, v2, d1, d2, d3, ht⟩
  rw [List.nil_append] at d3
  have hb2 : Below w.heap.size w w2 := hbO.trans ⟨ht.os, ht.tape, ht.output, ht.size, fun k hk => ht.block k (by omega) (by simp only; omega) (fun e => by cases e)⟩
  have c3 : w2.cell? ⟨w.heap.size, 0, none⟩ = some (.slice bs l.length cap) := by
    rw [ht.cell (a := ⟨w.heap.size, 0, none⟩) (by simp only; omega) (by simp only; omega) (fun e => by cases e)]; exact c2
  obtain ⟨G, hG⟩ : ∃ G, Hid (G = (plays l).2.isSome) := ⟨_, rfl⟩
  obtain ⟨E, hE⟩ : ∃ E, Hid (E = (plays l).2.getD 0) := ⟨_, rfl⟩
  have hGE : Hid (G = false → E = 0) := fun h => by
    rw [hG.out] at h
    rw [hE.out]
    cases h3 : (plays l).2
    · rfl
    · rw [h3] at h; cases h
  have hlenr : Hid ((plays l).1.length ≤ 1000000) := by have := plays_len l; unfold Hid; omega
  have hsz2 := ht.size
  rw [← hE.out]
  have d3H := hide d3
  have hactsH := hide hacts
  clear n1 n2 c1 c2 hb1 d2 ht hacts2 d3 hacts
  have hw2 : w.heap.size ≤ w2.heap.size := hb2.size
  go_wp2_with (go_at_call 99)
  go_at_call 10
  refine (ref_v hcap (by omega) (fun h0 => by obtain ⟨base, e, hc, _⟩ := hactsH.out _ hb2 h0; exact ⟨base, e, hc⟩)).mono ?_
  rintro e w3 ⟨u, rfl, ho3, hb3⟩
  rw [← hE.out, ← hG.out]
  have hsame := Fns.same_true (owns_keep d3H.out (fun g hg => hb3.block g (owns_lt d3H.out hg))) ho3 hlenr.out
  have d4 : w3.cell? ⟨w1.heap.size, 0, none⟩ = some v2 := (hb3.cell (lt_of_cell d1)).trans d1
  have hbF : Below w.heap.size w w3 := hb2.trans (hb3.mono hw2)
  have hsz3 := hbF.size
  clear d1 ho3 hb3 c3
  cases G with
  | false =>
    have hE0 := hGE.out rfl
    subst hE0
    clear hE hG hGE
    go_wp2_with (go_at_call 11; refine hsame.mono ?_; rintro e w4 ⟨rfl, hb4⟩)
    go_ret
    exact ⟨rfl, hbF.trans (hb4.mono hsz3)⟩
  | true =>
    clear hE hG hGE
    go_wp2_with (go_at_call 11; refine hsame.mono ?_; rintro e w4 ⟨rfl, hb4⟩)
    go_ret
    exact ⟨rfl, hbF.trans (hb4.mono hsz3)⟩
end Go.Proofs.Ytfdpnmohpdekiaa.Guard
