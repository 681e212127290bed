/- Layer 3: Each over the law's closures. -/
import Derived.Test.YtfdpnmohpdekiaaNeeds
set_option linter.unusedVariables false
set_option linter.unusedSimpArgs false
namespace Go.Proofs.Ytfdpnmohpdekiaa.Guard
open Go.RowKit Go

theorem add_block (a : Addr) (n : Nat) : (a.add n).block = a.block := by unfold Addr.add; split <;> rfl
theorem count_one (pn pl base : Addr) (i len cap : Nat) (x : Int) (w : World) (hi : i < len) (hlen : len ≤ 4611686018427387904)
    (h1 : w.cell? pn = some (.int .i64 i)) (h2 : w.frozen? pn = false) (h3 : w.cell? pl = some (.slice (some base) len cap)) (h4 : pn.block ≠ pl.block) (h5 : w.cell? (base.add i) = some (.int .i64 x)) (h6 : pn.block ≠ base.block) :
    Calls Try.prog 15 #[.int .i64 i, .pointer (some pn), .pointer (some pl)] w fun e w' => e = .panicked [given x] ∧ w' = w.setCell pn (.int .i64 ((i + 1 : Nat) : Int)) := by
  have h7 : ∀ v, (w.setCell pn v).cell? pl = some (.slice (some base) len cap) := fun v => by rw [other_cell h4]; exact h3
  have h8 : ∀ v, (w.setCell pn v).cell? (base.add i) = some (.int .i64 x) := fun v => by rw [other_cell (by rw [add_block]; exact h6)]; exact h5
  have hlt : (i : Int) < (len : Int) := by omega
  go_enter Try.func15, Try.ntmps15
  go_wp2_with (go_at_call 16; refine (fail_any _ _).mono ?_; rintro e w1 ⟨rfl, rfl⟩)
  exact ⟨rfl, rfl, rfl⟩
theorem each_one (pf pi pn pl base : Addr) (i len cap : Nat) (x : Int) (w : World) (hi : i < len) (hlen : len ≤ 4611686018427387904)
    (h1 : w.cell? pn = some (.int .i64 i)) (h2 : w.frozen? pn = false) (h3 : w.cell? pl = some (.slice (some base) len cap)) (h4 : pn.block ≠ pl.block) (h5 : w.cell? (base.add i) = some (.int .i64 x)) (h6 : pn.block ≠ base.block)
    (hf : w.cell? pf = some (.func (.func 15) #[] #[.pointer (some pn), .pointer (some pl)])) (hpi : w.cell? pi = some (.int .i64 i)) :
    Calls Try.prog 22 #[.pointer (some pf), .pointer (some pi)] w fun e w' => e = .panicked [given x] ∧ w' = w.setCell pn (.int .i64 ((i + 1 : Nat) : Int)) := by
  go_enter Try.func22, Try.ntmps22
  go_wp2_with (go_at_call 15; refine (count_one pn pl base i len cap x _ hi hlen h1 h2 h3 h4 h5 h6).mono ?_; rintro e w1 ⟨rfl, rfl⟩)
  exact ⟨rfl, rfl, rfl⟩
/-- One round of Each, over the closure that counts. -/
theorem try_each (pf pi pn pl base : Addr) (i len cap : Nat) (x : Int) (w : World) (hi : i < len) (hlen : len ≤ 4611686018427387904)
    (h1 : w.cell? pn = some (.int .i64 i)) (h2 : w.frozen? pn = false) (h3 : w.cell? pl = some (.slice (some base) len cap)) (h4 : pn.block ≠ pl.block) (h5 : w.cell? (base.add i) = some (.int .i64 x)) (h6 : pn.block ≠ base.block)
    (hf : w.cell? pf = some (.func (.func 15) #[] #[.pointer (some pn), .pointer (some pl)])) (hpi : w.cell? pi = some (.int .i64 i)) :
    Calls Try.prog 7 #[.func (.func 22) #[] #[.pointer (some pf), .pointer (some pi)]] w fun e w' => e = .returned (.int .i64 x) ∧ w'.cell? pn = some (.int .i64 ((i + 1 : Nat) : Int)) ∧ w'.frozen? pn = false ∧ Below pn.block w w' ∧ w.heap.size < w'.heap.size ∧
      ∀ a : Addr, a.block < w.heap.size → a.block ≠ pn.block → w'.cell? a = w.cell? a := by
  have k1 := lt_of_cell h1
  have k3 := lt_of_cell h3
  have k5 := lt_of_cell h5
  have kf := lt_of_cell hf
  have ki := lt_of_cell hpi
  obtain ⟨n1, n2⟩ := new_cell w #[.int .i64 0] 25 (.int .i64 0) rfl
  refine (try_any (cl := 22) (caps := #[.pointer (some pf), .pointer (some pi)]) (P0 := fun _ => False) (P1 := fun c w2 => c = x ∧ w2 = (w.alloc (.cells #[.int .i64 0] 25)).setCell pn (.int .i64 ((i + 1 : Nat) : Int))) (fun _ => rfl)
    ((each_one pf pi pn pl base i len cap x _ hi hlen (by rw [old_cell k1]; exact h1) (by rw [old_frozen k1]; exact h2) (by rw [old_cell k3]; exact h3) h4 (by rw [old_cell k5]; exact h5) h6 (by rw [old_cell kf]; exact hf) (by rw [old_cell ki]; exact hpi)).mono ?_)).mono ?_
  · rintro e w2 ⟨rfl, rfl⟩
    refine ⟨⟨?_, ?_⟩, .inr ⟨x, rfl, rfl, rfl⟩⟩
    · rw [other_cell (show pn.block ≠ w.heap.size by omega)]; exact n1
    · rw [World.frozen?_setCell]; exact n2
  · rintro e w' ⟨w2, hb, (⟨_, h⟩ | ⟨c, rfl, rfl, rfl⟩)⟩
    · exact h.elim
    · have hs := hb.size
      have e2 : ((w.alloc (.cells #[.int .i64 0] 25)).setCell pn (.int .i64 ((i + 1 : Nat) : Int))).heap.size = w.heap.size + 1 := by simp [World.setCell]
      refine ⟨rfl, ?_, ?_, ?_, by omega, ?_⟩
      · rw [hb.cell k1]; exact same_cell (by rw [old_cell k1]; exact h1)
      · rw [hb.frozen k1, World.frozen?_setCell, old_frozen k1]; exact h2
      · exact (((Below.refl pn.block w).alloc (by omega) _).setCell (Nat.le_refl _) _).trans (hb.mono (by omega))
      · intro a ha hne
        rw [hb.cell ha, other_cell (fun e => hne e.symm), old_cell ha]
theorem two_ret (v u : Value) (P : Program) : True := trivial
/-- How many come first that are OK. -/
def firstN : List Int → Nat
  | [] => 0
  | x :: xs => if x = 0 then firstN xs + 1 else 0
theorem firstN_le (xs : List Int) : firstN xs ≤ xs.length := by
  induction xs with
  | nil => simp [firstN]
  | cons x xs ih => unfold firstN; split <;> simp <;> omega
theorem firstN_of {xs : List Int} {k : Nat} (h0 : ∀ j, j < k → xs.getD j 0 = 0) (hk : k ≤ xs.length) (h1 : k = xs.length ∨ xs.getD k 0 ≠ 0) : firstN xs = k := by
  induction xs generalizing k with
  | nil => simp at hk; subst hk; rfl
  | cons x xs ih =>
    unfold firstN
    cases k with
    | zero =>
      have : x ≠ 0 := by
        rcases h1 with h1 | h1
        · simp at h1
        · simpa using h1
      rw [if_neg this]
    | succ k =>
      have hx : x = 0 := by simpa using h0 0 (by omega)
      rw [if_pos hx]
      have := ih (k := k) (fun j hj => by simpa using h0 (j + 1) (by omega)) (by simpa using hk) (by simpa using h1)
      omega
/-- What the law's counter holds behind Each. -/
def nAfter (xs : List Int) : Int := if firstN xs = xs.length then xs.length else firstN xs + 1
theorem each_count (pn pl base : Addr) (cap : Nat) (xs : List Int) (w : World) (hlen : xs.length ≤ 60)
    (h1 : w.cell? pn = some (.int .i64 0)) (h2 : w.frozen? pn = false) (h3 : w.cell? pl = some (.slice (some base) xs.length cap)) (h4 : pl.block < pn.block) (h5 : ∀ j, j < xs.length → w.cell? (base.add j) = some (.int .i64 (xs.getD j 0))) (h6 : base.block < pn.block) :
    Calls Try.prog 14 #[.int .i64 xs.length, .func (.func 15) #[] #[.pointer (some pn), .pointer (some pl)]] w fun e w' => e = .returned (.tuple #[.int .i64 (firstN xs), .int .i64 (xs.getD (firstN xs) 0)]) ∧ w'.cell? pn = some (.int .i64 (nAfter xs)) ∧ w'.frozen? pn = false ∧ Below pn.block w w' ∧ w.heap.size ≤ w'.heap.size := by
  have hmf : ∀ (fn : Fn) (first cap : Array Value) (w : World), (Instr.makeFunc fn first cap).run Try.prog w = .ok (.func fn first cap) w := fun _ _ _ _ => rfl
  have k1 := lt_of_cell h1
  go_enter Try.func14, Try.ntmps14
  go_wp2
  obtain ⟨n1, n2⟩ := new_cell w #[.func (.func 15) #[] #[.pointer (some pn), .pointer (some pl)]] 38 _ rfl
  have hb0 : Below pn.block w (w.alloc (.cells #[.func (.func 15) #[] #[.pointer (some pn), .pointer (some pl)]] 38)) := (Below.refl pn.block w).alloc (by omega) _
  have hn0 : (w.alloc (.cells #[.func (.func 15) #[] #[.pointer (some pn), .pointer (some pl)]] 38)).cell? pn = some (.int .i64 0) := by rw [old_cell k1]; exact h1
  have hf0 : (w.alloc (.cells #[.func (.func 15) #[] #[.pointer (some pn), .pointer (some pl)]] 38)).frozen? pn = false := by rw [old_frozen k1]; exact h2
  go_loopw [10] (fun i wr => ∃ k : Nat, k ≤ xs.length ∧ i = .int .i64 k ∧ (∀ j, j < k → xs.getD j 0 = 0) ∧ wr.cell? pn = some (.int .i64 k) ∧ wr.frozen? pn = false ∧ wr.cell? ⟨w.heap.size, 0, none⟩ = some (.func (.func 15) #[] #[.pointer (some pn), .pointer (some pl)]) ∧ Below pn.block w wr ∧ w.heap.size < wr.heap.size)
    (fun i _ => xs.length - (intOf i).toNat)
  case atStart => exact ⟨0, Nat.zero_le _, rfl, fun j hj => absurd hj (by omega), hn0, hf0, n1, hb0, by simp⟩
  case round =>
    obtain ⟨k, hk, rfl, hz, hn, hfr, hpf, hb, hsz⟩ := hrel
    clear n1 n2 hb0 hn0 hf0
    go_wp2_with (go_at_call 16)
    · have hlt : k < xs.length := by assumption
      go_at_call 7
      obtain ⟨n1, n2⟩ := new_cell wr #[.int .i64 k] 3 _ rfl
      have hkn := lt_of_cell hn
      have hkl : pl.block < wr.heap.size := by omega
      obtain ⟨x, hxh⟩ : ∃ x, Hid (x = xs.getD k 0) := ⟨_, rfl⟩
      have hxe := hxh.out
      have hx := (hb.cell (p := base.add k) (by rw [add_block]; exact h6)).trans (h5 k hlt)
      rw [← hxe] at hx
      refine (try_each ⟨w.heap.size, 0, none⟩ ⟨wr.heap.size, 0, none⟩ pn pl base k xs.length cap x _ hlt (by omega) (by rw [old_cell hkn]; exact hn) (by rw [old_frozen hkn]; exact hfr) (by rw [old_cell hkl]; exact (hb.cell h4).trans h3) (by omega) (by rw [old_cell (lt_of_cell hx)]; exact hx) (by omega) (by rw [old_cell (lt_of_cell hpf)]; exact hpf) n1).mono ?_
      rintro e w2 ⟨rfl, d1, d2, d3, d4, d5⟩
      have e1 : (wr.alloc (.cells #[.int .i64 k] 3)).heap.size = wr.heap.size + 1 := by simp
      have c6 : w2.cell? ⟨wr.heap.size, 0, none⟩ = some (.int .i64 k) := by rw [d5 ⟨wr.heap.size, 0, none⟩ (by simp only; omega) (show wr.heap.size ≠ pn.block by omega)]; exact n1
      have c7 : w2.cell? ⟨w.heap.size, 0, none⟩ = some (.func (.func 15) #[] #[.pointer (some pn), .pointer (some pl)]) := by
        rw [d5 ⟨w.heap.size, 0, none⟩ (by simp only; omega) (show w.heap.size ≠ pn.block by omega), old_cell (lt_of_cell hpf)]; exact hpf
      have hbw : Below pn.block w w2 := (hb.alloc (by omega) _).trans d3
      have hsw : w.heap.size < w2.heap.size := by omega
      have hz' := hz
      clear hn hfr hpf hb n1 n2 hx d5 d3 h1 h2 h3 h5 hz hxe
      go_wp2
      · have hne : (x != 0) = true := by assumption
        have hne : x ≠ 0 := by simpa using hne
        have hxe := hxh.out
        have e3 : firstN xs = k := firstN_of hz' (by omega) (.inr (by rw [← hxe]; exact hne))
        go_ret2
        refine ⟨by rw [e3, ← hxe]; rfl, ?_, d2, hbw, by omega⟩
        unfold nAfter
        rw [if_neg (by omega), e3, d1]
        rfl
      · have heq : (x != 0) = false := by assumption
        have heq : x = 0 := by simpa using heq
        have hxe := hxh.out
        refine ⟨⟨k + 1, by omega, rfl, fun j hj => ?_, d1, d2, c7, hbw, hsw⟩, ?_⟩
        · rcases Nat.lt_or_ge j k with h | h
          · exact hz' j h
          · have : j = k := by omega
            subst this
            rw [← hxe]; exact heq
        · simp [intOf]; omega
    · have hge : ¬ k < xs.length := by assumption
      have hkl : k = xs.length := by omega
      have e1 : firstN xs = xs.length := firstN_of (fun j hj => hz j (by omega)) (Nat.le_refl _) (.inl rfl)
      go_ret2
      rw [e1]
      refine ⟨?_, ?_, hfr, hb, by omega⟩
      · simp
      · unfold nAfter
        rw [if_pos e1, hn, hkl]
end Go.Proofs.Ytfdpnmohpdekiaa.Guard
