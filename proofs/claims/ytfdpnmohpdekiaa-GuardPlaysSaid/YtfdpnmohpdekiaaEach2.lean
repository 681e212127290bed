/- Layer 3: the law GuardEach, walked. -/
import Derived.Test.YtfdpnmohpdekiaaEach
set_option linter.unusedVariables false
set_option linter.unusedSimpArgs false
namespace Go.Proofs.Ytfdpnmohpdekiaa.Guard
open Go.RowKit Go

theorem each_neg (n : Int) (g : FuncId) (cs : Array Value) (w : World) (hn : n < 0) : Calls Try.prog 14 #[.int .i64 n, .func (.func g) #[] cs] w fun e w' => e = .returned (.tuple #[.int .i64 0, .int .i64 0]) ∧ Below w.heap.size w w' := by
  have hn' : ¬ 0 ≤ n := by omega
  have hb : Below w.heap.size w (w.alloc (.cells #[.func (.func g) #[] cs] 38)) := (Below.refl w.heap.size w).alloc (Nat.le_refl _) _
  go_enter Try.func14, Try.ntmps14
  go_wp2
  refine wp_loop_rounds 1 ?_
  rw [rounds_succ]
  go_wp2
  go_ret2
  exact ⟨rfl, hb⟩
theorem each_zero (g : FuncId) (cs : Array Value) (w : World) : Calls Try.prog 14 #[.int .i64 0, .func (.func g) #[] cs] w fun e w' => e = .returned (.tuple #[.int .i64 0, .int .i64 0]) ∧ Below w.heap.size w w' := by
  have hb : Below w.heap.size w (w.alloc (.cells #[.func (.func g) #[] cs] 38)) := (Below.refl w.heap.size w).alloc (Nat.le_refl _) _
  go_enter Try.func14, Try.ntmps14
  go_wp2
  refine wp_loop_rounds 1 ?_
  rw [rounds_succ]
  go_wp2
  go_ret2
  exact ⟨rfl, hb⟩
theorem each_none (n : Int) (g : FuncId) (cs : Array Value) (w : World) (hn : n ≤ 0) : Calls Try.prog 14 #[.int .i64 n, .func (.func g) #[] cs] w fun e w' => e = .returned (.tuple #[.int .i64 0, .int .i64 0]) ∧ Below w.heap.size w w' := by
  rcases Int.lt_or_eq_of_le hn with h | h
  · exact each_neg n g cs w h
  · subst h; exact each_zero g cs w
theorem guardEach_long (base : Option Addr) (n cap : Nat) (more : Int) (w : World) (hn : 60 < n) :
    Calls Try.prog 5 #[.slice base n cap, .int .i64 more] w fun e w' => e = .returned (.bool true) ∧ Below w.heap.size w w' := by
  have hlt : (60 : Int) < (n : Int) := by omega
  go_enter Try.func5, Try.ntmps5
  go_wp2_with (go_at_call 6; refine (awake_any _).mono ?_; rintro e w1 ⟨rfl, hb1⟩)
  go_ret
  exact ⟨rfl, ((Below.refl w.heap.size w).alloc (Nat.le_refl _) _).trans (hb1.mono (by simp))⟩
theorem one_box {w w1 : World} {v : Value} {T : TypeId} (hb : Below (w.alloc (.cells #[v] T)).heap.size (w.alloc (.cells #[v] T)) w1) :
    w.heap.size + 1 ≤ w1.heap.size ∧ Below w.heap.size w w1 ∧ w1.cell? ⟨w.heap.size, 0, none⟩ = some v := by
  have e1 : (w.alloc (.cells #[v] T)).heap.size = w.heap.size + 1 := by simp
  have hs := hb.size
  obtain ⟨n1, _⟩ := new_cell w #[v] T v rfl
  refine ⟨by omega, ((Below.refl w.heap.size w).alloc (Nat.le_refl _) _).trans (hb.mono (by omega)), ?_⟩
  rw [hb.cell (p := ⟨w.heap.size, 0, none⟩) (by simp only; omega)]; exact n1
theorem keep_cell {w w' : World} {a : Addr} {v : Value} (hb : Below w.heap.size w w') (h : w.cell? a = some v) : w'.cell? a = some v := (hb.cell (lt_of_cell h)).trans h
theorem each_count' (pn pl base : Addr) (cap : Nat) (xs : List Int) (w : World) (hlen : xs.length ≤ 60)
    (h1 : w.cell? pn = some (.int .i64 0)) (h2 : w.frozen? pn = false) (h3 : w.cell? pl = some (.slice (some base) xs.length cap)) (h4 : pl.block < pn.block) (h5 : ∀ j, j < xs.length → w.cell? (base.add j) = some (.int .i64 (xs.getD j 0))) (h6 : base.block < pn.block) (k : Nat) (hk : firstN xs = k) :
    Calls Try.prog 14 #[.int .i64 xs.length, .func (.func 15) #[] #[.pointer (some pn), .pointer (some pl)]] w fun e w' => ∃ (E M : Int), e = .returned (.tuple #[.int .i64 k, .int .i64 E]) ∧ w'.cell? pn = some (.int .i64 M) ∧ Below pn.block w w' ∧ w.heap.size ≤ w'.heap.size ∧
      ((k = xs.length ∧ E = 0 ∧ M = xs.length) ∨ (k < xs.length ∧ w'.cell? (base.add k) = some (.int .i64 E) ∧ M = k + 1)) := by
  refine (each_count pn pl base cap xs w hlen h1 h2 h3 h4 h5 h6).mono ?_
  rintro e w' ⟨rfl, d1, d2, hb, hs⟩
  rw [hk]
  refine ⟨xs.getD k 0, nAfter xs, rfl, d1, hb, hs, ?_⟩
  have hle := firstN_le xs
  unfold nAfter
  rw [hk]
  rw [hk] at hle
  rcases Nat.lt_or_ge k xs.length with h | h
  · exact .inr ⟨h, by rw [hb.cell (by rw [add_block]; exact h6)]; exact h5 k h, by rw [if_neg (by omega)]⟩
  · have : k = xs.length := by omega
    subst this
    exact .inl ⟨rfl, by simp, by rw [if_pos rfl]⟩
theorem guardEach_some (base : Addr) (cap : Nat) (xs : List Int) (more : Int) (w : World) (hlen : xs.length ≤ 60) (hpos : 0 < xs.length) (h5 : ∀ j, j < xs.length → w.cell? (base.add j) = some (.int .i64 (xs.getD j 0))) :
    Calls Try.prog 5 #[.slice (some base) xs.length cap, .int .i64 more] w fun e w' => e = .returned (.bool true) ∧ Below w.heap.size w w' := by
  have hlt : ¬ (60 : Int) < (xs.length : Int) := by omega
  have hmf : ∀ (fn : Fn) (first cap : Array Value) (w : World), (Instr.makeFunc fn first cap).run Try.prog w = .ok (.func fn first cap) w := fun _ _ _ _ => rfl
  have hnot : ∀ (x : Bool) (w : World), (Op.unary .not (.bool x)).run Try.prog w = .ok (.bool (!x)) w := fun _ _ => rfl
  have hbase : base.block < w.heap.size := by have := lt_of_cell (h5 0 hpos); rwa [add_block] at this
  go_enter Try.func5, Try.ntmps5
  go_wp2_with (go_at_call 6; refine (awake_any _).mono ?_; rintro e w1 ⟨rfl, hb1⟩)
  obtain ⟨hs, hbw, c1⟩ := one_box hb1
  have h6 : ∀ j, j < xs.length → w1.cell? (base.add j) = some (.int .i64 (xs.getD j 0)) := fun j hj => by rw [hbw.cell (by rw [add_block]; exact hbase)]; exact h5 j hj
  have hsl : w.heap.size < w1.heap.size := by omega
  have hcb : ∀ o, (w1.alloc o).cell? ⟨w.heap.size, 0, none⟩ = some (.slice (some base) xs.length cap) := fun o => by rw [old_cell (by simpa using hsl)]; exact c1
  clear hb1 h5
  go_loop [5] (fun i => ∃ k : Nat, k ≤ xs.length ∧ i = .int .i64 k ∧ ∀ j, j < k → xs.getD j 0 = 0) (fun i => xs.length - (intOf i).toNat)
  case atStart => exact ⟨0, Nat.zero_le _, rfl, fun j hj => absurd hj (by omega)⟩
  case round =>
    obtain ⟨k, hk, rfl, hz⟩ := hrel
    obtain ⟨x, hxh⟩ : ∃ x, Hid (x = xs.getD k 0) := ⟨_, rfl⟩
    have hx : k < xs.length → w1.cell? (base.add k) = some (.int .i64 x) := fun h => by rw [hxh.out]; exact h6 k h
    have hz' : Hid (∀ j, j < k → xs.getD j 0 = 0) := hz
    have h6' : Hid (∀ j, j < xs.length → w1.cell? (base.add j) = some (.int .i64 (xs.getD j 0))) := h6
    clear hz h6
    go_wp2_with (go_at_call 6)
    · have hx0 : (x == 0) = true := by assumption
      have hx0 : x = 0 := by simpa using hx0
      have hlk : k < xs.length := by assumption
      refine ⟨⟨k + 1, by omega, rfl, fun j hj => ?_⟩, ?_⟩
      · rcases Nat.lt_or_ge j k with h | h
        · exact hz'.out j h
        · have : j = k := by omega
          subst this
          rw [← hxh.out]; exact hx0
      · simp [intOf]; omega
    · have hx0 : (x == 0) = false := by assumption
      have hx0 : x ≠ 0 := by simpa using hx0
      have hlk : k < xs.length := by assumption
      have hfk : firstN xs = k := firstN_of hz'.out hk (.inr (by rw [← hxh.out]; exact hx0))
      go_at_call 14
      obtain ⟨n1, n2⟩ := new_cell w1 #[.int .i64 0] 3 _ rfl
      have hpl : w.heap.size < w1.heap.size := by omega
      have hoc : ∀ (a : Addr) (v : Value), w1.cell? a = some v → (w1.alloc (.cells #[.int .i64 0] 3)).cell? a = some v := fun a v h => by rw [old_cell (lt_of_cell h)]; exact h
      refine (each_count' ⟨w1.heap.size, 0, none⟩ ⟨w.heap.size, 0, none⟩ base cap xs _ hlen n1 n2 (hoc _ _ c1) hpl (fun j hj => hoc _ _ (h6'.out j hj)) (show base.block < w1.heap.size by omega) k hfk).mono ?_
      rintro e w2 ⟨E, M, rfl, d1, hb2, hs2, hd⟩
      have c2 : w2.cell? ⟨w.heap.size, 0, none⟩ = some (.slice (some base) xs.length cap) := by rw [hb2.cell hpl]; exact hoc _ _ c1
      have e1 : (w1.alloc (.cells #[.int .i64 0] 3)).heap.size = w1.heap.size + 1 := by simp
      have hbw2 : Below w.heap.size w w2 := (hbw.alloc (by omega) _).trans (hb2.mono (by simp only; omega))
      have hs3 : w1.heap.size < w2.heap.size := by omega
      clear hoc n1 n2 c1 hx hb2 hs2 e1 hcb
      rcases hd with ⟨rfl, rfl, rfl⟩ | ⟨hkl, hce, rfl⟩
      · go_wp2_with (go_at_call 14; refine (each_none _ _ _ _ (by omega)).mono ?_; rintro e w3 ⟨rfl, hb3⟩; have c3 := keep_cell hb3 c2; have d3 := keep_cell hb3 d1; have hb4 : Below w.heap.size w w3 := hbw2.trans (hb3.mono (by omega)); clear hb3 c2 d1)
        all_goals go_ret
        all_goals exact ⟨rfl, hb4⟩
      · go_wp2_with (go_at_call 14; refine (each_none _ _ _ _ (by omega)).mono ?_; rintro e w3 ⟨rfl, hb3⟩; have c3 := keep_cell hb3 c2; have d3 := keep_cell hb3 d1; have e3 := keep_cell hb3 hce; have hb4 : Below w.heap.size w w3 := hbw2.trans (hb3.mono (by omega)); clear hb3 c2 d1 hce)
        all_goals go_ret
        all_goals exact ⟨rfl, hb4⟩
    · have hlk : ¬ k < xs.length := by assumption
      have hfk : firstN xs = k := firstN_of hz'.out hk (.inl (by omega))
      go_at_call 14
      obtain ⟨n1, n2⟩ := new_cell w1 #[.int .i64 0] 3 _ rfl
      have hpl : w.heap.size < w1.heap.size := by omega
      have hoc : ∀ (a : Addr) (v : Value), w1.cell? a = some v → (w1.alloc (.cells #[.int .i64 0] 3)).cell? a = some v := fun a v h => by rw [old_cell (lt_of_cell h)]; exact h
      refine (each_count' ⟨w1.heap.size, 0, none⟩ ⟨w.heap.size, 0, none⟩ base cap xs _ hlen n1 n2 (hoc _ _ c1) hpl (fun j hj => hoc _ _ (h6'.out j hj)) (show base.block < w1.heap.size by omega) k hfk).mono ?_
      rintro e w2 ⟨E, M, rfl, d1, hb2, hs2, hd⟩
      have c2 : w2.cell? ⟨w.heap.size, 0, none⟩ = some (.slice (some base) xs.length cap) := by rw [hb2.cell hpl]; exact hoc _ _ c1
      have e1 : (w1.alloc (.cells #[.int .i64 0] 3)).heap.size = w1.heap.size + 1 := by simp
      have hbw2 : Below w.heap.size w w2 := (hbw.alloc (by omega) _).trans (hb2.mono (by simp only; omega))
      have hs3 : w1.heap.size < w2.heap.size := by omega
      clear hoc n1 n2 c1 hx hb2 hs2 e1 hcb
      rcases hd with ⟨rfl, rfl, rfl⟩ | ⟨hkl, hce, rfl⟩
      · go_wp2_with (go_at_call 14; refine (each_none _ _ _ _ (by omega)).mono ?_; rintro e w3 ⟨rfl, hb3⟩; have c3 := keep_cell hb3 c2; have d3 := keep_cell hb3 d1; have hb4 : Below w.heap.size w w3 := hbw2.trans (hb3.mono (by omega)); clear hb3 c2 d1)
        all_goals go_ret
        all_goals exact ⟨rfl, hb4⟩
      · go_wp2_with (go_at_call 14; refine (each_none _ _ _ _ (by omega)).mono ?_; rintro e w3 ⟨rfl, hb3⟩; have c3 := keep_cell hb3 c2; have d3 := keep_cell hb3 d1; have e3 := keep_cell hb3 hce; have hb4 : Below w.heap.size w w3 := hbw2.trans (hb3.mono (by omega)); clear hb3 c2 d1 hce)
        all_goals go_ret
        all_goals exact ⟨rfl, hb4⟩
theorem guardEach_nil (base : Option Addr) (cap : Nat) (more : Int) (w : World) :
    Calls Try.prog 5 #[.slice base 0 cap, .int .i64 more] w fun e w' => e = .returned (.bool true) ∧ Below w.heap.size w w' := by
  have hmf : ∀ (fn : Fn) (first cap : Array Value) (w : World), (Instr.makeFunc fn first cap).run Try.prog w = .ok (.func fn first cap) w := fun _ _ _ _ => rfl
  have hnot : ∀ (x : Bool) (w : World), (Op.unary .not (.bool x)).run Try.prog w = .ok (.bool (!x)) w := fun _ _ => rfl
  go_enter Try.func5, Try.ntmps5
  go_wp2_with (go_at_call 6; refine (awake_any _).mono ?_; rintro e w1 ⟨rfl, hb1⟩)
  obtain ⟨hs, hbw, c1⟩ := one_box hb1
  have hsl : w.heap.size < w1.heap.size := by omega
  have hcb : ∀ o, (w1.alloc o).cell? ⟨w.heap.size, 0, none⟩ = some (.slice base 0 cap) := fun o => by rw [old_cell (by simpa using hsl)]; exact c1
  clear hb1
  refine wp_loop_rounds 1 ?_
  rw [rounds_succ]
  go_wp2_with (go_at_call 16)
  go_at_call 14
  obtain ⟨n1, n2⟩ := new_cell w1 #[.int .i64 0] 3 _ rfl
  refine (each_zero _ _ _).mono ?_
  rintro e w2 ⟨rfl, hb2⟩
  have c2 := keep_cell hb2 (hcb _)
  have d1 := keep_cell hb2 n1
  have hbw2 : Below w.heap.size w w2 := (hbw.alloc (by omega) _).trans (hb2.mono (by simp; omega))
  have hs3 : w.heap.size ≤ w2.heap.size := hbw2.size
  clear hcb n1 n2 c1 hb2
  go_wp2_with (go_at_call 14; refine (each_none _ _ _ _ (by omega)).mono ?_; rintro e w3 ⟨rfl, hb3⟩; have c3 := keep_cell hb3 c2; have d3 := keep_cell hb3 d1; have hb4 : Below w.heap.size w w3 := hbw2.trans (hb3.mono (by omega)); clear hb3 c2 d1)
  all_goals go_ret
  all_goals exact ⟨rfl, hb4⟩
end Go.Proofs.Ytfdpnmohpdekiaa.Guard
