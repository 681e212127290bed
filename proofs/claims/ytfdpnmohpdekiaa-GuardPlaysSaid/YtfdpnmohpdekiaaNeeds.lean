/- Layer 3: the example; the law GuardNeeds, as a function. -/
import Derived.Test.YtfdpnmohpdekiaaFail
set_option linter.unusedVariables false
set_option linter.unusedSimpArgs false
namespace Go.Proofs.Ytfdpnmohpdekiaa.Guard
open Go.RowKit Go

theorem awake1 (w : World) : Calls Try.prog 18 #[] w fun e w' => e = .panicked [given 1] ∧ w' = w := by
  go_enter Try.func18, Try.ntmps18
  go_wp2
  exact ⟨rfl, rfl, rfl, rfl⟩
theorem awake2 (w : World) : Calls Try.prog 19 #[] w fun e w' => e = .returned (.tuple #[]) ∧ w' = w := by
  go_enter Try.func19, Try.ntmps19
  go_wp2
  go_end0
  exact ⟨rfl, rfl⟩
theorem new_cell (w : World) (o : Array Value) (T : TypeId) (v : Value) (h : o = #[v]) : (w.alloc (.cells o T)).cell? ⟨w.heap.size, 0, none⟩ = some v ∧ (w.alloc (.cells o T)).frozen? ⟨w.heap.size, 0, none⟩ = false := by
  subst h
  simp [go_sem]
theorem old_cell {w : World} {o : Obj} {a : Addr} (h : a.block < w.heap.size) : (w.alloc o).cell? a = w.cell? a := World.cell?_alloc_old w o a (by omega)
theorem old_frozen {w : World} {o : Obj} {a : Addr} (h : a.block < w.heap.size) : (w.alloc o).frozen? a = w.frozen? a := World.frozen?_alloc_old w o a (by omega)
theorem other_cell {w : World} {v : Value} {a b : Addr} (h : a.block ≠ b.block) : (w.setCell a v).cell? b = w.cell? b := World.cell?_setCell_other w a b v (fun e => h (by rw [e]))
theorem same_cell {w : World} {u v : Value} {a : Addr} (h : w.cell? a = some u) : (w.setCell a v).cell? a = some v := World.cell?_setCell_same w a v h
theorem try_awake1 (w : World) : Calls Try.prog 7 #[.func (.func 18) #[] #[]] w fun e w' => e = .returned (.int .i64 1) ∧ Below w.heap.size w w' := by
  refine (try_any (cl := 18) (caps := #[]) (P0 := fun _ => False) (P1 := fun c w2 => c = 1 ∧ w2 = w.alloc (.cells #[.int .i64 0] 25)) (fun _ => rfl) ((awake1 _).mono ?_)).mono ?_
  · rintro e w2 ⟨rfl, rfl⟩
    exact ⟨new_cell w _ _ _ rfl, .inr ⟨1, rfl, rfl, rfl⟩⟩
  · rintro e w' ⟨w2, hb, (⟨_, h⟩ | ⟨c, rfl, rfl, rfl⟩)⟩
    · exact h.elim
    · exact ⟨rfl, ((Below.refl w.heap.size w).alloc (Nat.le_refl _) _).trans hb⟩
theorem try_awake2 (w : World) : Calls Try.prog 7 #[.func (.func 19) #[] #[]] w fun e w' => e = .returned (.int .i64 0) ∧ Below w.heap.size w w' := by
  refine (try_any (cl := 19) (caps := #[]) (P0 := fun w2 => w2 = w.alloc (.cells #[.int .i64 0] 25)) (P1 := fun _ _ => False) (fun _ => rfl) ((awake2 _).mono ?_)).mono ?_
  · rintro e w2 ⟨rfl, rfl⟩
    exact ⟨new_cell w _ _ _ rfl, .inl ⟨rfl, rfl⟩⟩
  · rintro e w' ⟨w2, hb, (⟨rfl, rfl⟩ | ⟨c, _, h⟩)⟩
    · exact ⟨rfl, ((Below.refl w.heap.size w).alloc (Nat.le_refl _) _).trans hb⟩
    · exact h.elim
theorem awake_any (w : World) : Calls Try.prog 6 #[] w fun e w' => e = .returned (.bool true) ∧ Below w.heap.size w w' := by
  go_enter Try.func6, Try.ntmps6
  go_wp2_with (go_at_call 7; first | (refine (try_awake1 _).mono ?_; rintro e w1 ⟨rfl, hb1⟩) | (refine (try_awake2 _).mono ?_; rintro e w2 ⟨rfl, hb2⟩))
  go_ret
  exact ⟨rfl, hb1.trans (hb2.mono hb1.size)⟩
theorem needs_true (p q r : Addr) (c x : Int) (w : World) (h1 : w.cell? p = some (.bool true)) (h2 : w.cell? q = some (.int .i64 c)) (h3 : w.cell? r = some (.int .i64 x)) (h4 : w.frozen? r = false) :
    Calls Try.prog 12 #[.pointer (some p), .pointer (some q), .pointer (some r)] w fun e w' => e = .returned (.tuple #[]) ∧ w' = w.setCell r (.int .i64 1) := by
  go_enter Try.func12, Try.ntmps12
  go_wp2_with (go_at_call 13; refine (need_true _ _).mono ?_; rintro e w1 ⟨rfl, rfl⟩)
  go_end0
  exact ⟨rfl, rfl⟩
theorem needs_false (p q r : Addr) (c : Int) (w : World) (h1 : w.cell? p = some (.bool false)) (h2 : w.cell? q = some (.int .i64 c)) :
    Calls Try.prog 12 #[.pointer (some p), .pointer (some q), .pointer (some r)] w fun e w' => e = .panicked [given c] ∧ w' = w := by
  go_enter Try.func12, Try.ntmps12
  go_wp2_with (go_at_call 13; refine (need_false _ _).mono ?_; rintro e w1 ⟨rfl, rfl⟩)
  exact ⟨rfl, rfl, rfl⟩
theorem try_needs_true (p q r : Addr) (c : Int) (w : World) (h1 : w.cell? p = some (.bool true)) (h2 : w.cell? q = some (.int .i64 c)) (h3 : w.cell? r = some (.int .i64 0)) (h4 : w.frozen? r = false) (hp : p.block < r.block) (hq : q.block < r.block) :
    Calls Try.prog 7 #[.func (.func 12) #[] #[.pointer (some p), .pointer (some q), .pointer (some r)]] w fun e w' => e = .returned (.int .i64 0) ∧ w'.cell? p = some (.bool true) ∧ w'.cell? r = some (.int .i64 1) ∧ Below r.block w w' := by
  have k1 := lt_of_cell h1
  have k2 := lt_of_cell h2
  have k3 := lt_of_cell h3
  obtain ⟨n1, n2⟩ := new_cell w #[.int .i64 0] 25 (.int .i64 0) rfl
  refine (try_any (cl := 12) (caps := #[.pointer (some p), .pointer (some q), .pointer (some r)]) (P0 := fun w2 => w2 = (w.alloc (.cells #[.int .i64 0] 25)).setCell r (.int .i64 1)) (P1 := fun _ _ => False) (fun _ => rfl)
    ((needs_true p q r c 0 _ (by rw [old_cell k1]; exact h1) (by rw [old_cell k2]; exact h2) (by rw [old_cell k3]; exact h3) (by rw [old_frozen k3]; exact h4)).mono ?_)).mono ?_
  · rintro e w2 ⟨rfl, rfl⟩
    refine ⟨⟨?_, ?_⟩, .inl ⟨rfl, rfl⟩⟩
    · rw [other_cell (show r.block ≠ w.heap.size by omega)]; exact n1
    · rw [World.frozen?_setCell]; exact n2
  · rintro e w' ⟨w2, hb, (⟨rfl, rfl⟩ | ⟨c, _, h⟩)⟩
    · refine ⟨rfl, ?_, ?_, ?_⟩
      · rw [hb.cell k1, other_cell (show r.block ≠ p.block by omega), old_cell k1, h1]
      · rw [hb.cell k3]
        exact same_cell (by rw [old_cell k3]; exact h3)
      · exact (((Below.refl r.block w).alloc (by omega) _).setCell (Nat.le_refl _) _).trans (hb.mono (by omega))
    · exact h.elim
theorem try_needs_false (p q r : Addr) (c : Int) (w : World) (h1 : w.cell? p = some (.bool false)) (h2 : w.cell? q = some (.int .i64 c)) (h3 : w.cell? r = some (.int .i64 0)) (hp : p.block < r.block) (hq : q.block < r.block) :
    Calls Try.prog 7 #[.func (.func 12) #[] #[.pointer (some p), .pointer (some q), .pointer (some r)]] w fun e w' => e = .returned (.int .i64 c) ∧ w'.cell? p = some (.bool false) ∧ w'.cell? q = some (.int .i64 c) ∧ w'.cell? r = some (.int .i64 0) ∧ Below r.block w w' := by
  have k1 := lt_of_cell h1
  have k2 := lt_of_cell h2
  have k3 := lt_of_cell h3
  obtain ⟨n1, n2⟩ := new_cell w #[.int .i64 0] 25 (.int .i64 0) rfl
  refine (try_any (cl := 12) (caps := #[.pointer (some p), .pointer (some q), .pointer (some r)]) (P0 := fun _ => False) (P1 := fun x w2 => x = c ∧ w2 = w.alloc (.cells #[.int .i64 0] 25)) (fun _ => rfl)
    ((needs_false p q r c _ (by rw [old_cell k1]; exact h1) (by rw [old_cell k2]; exact h2)).mono ?_)).mono ?_
  · rintro e w2 ⟨rfl, rfl⟩
    exact ⟨⟨n1, n2⟩, .inr ⟨c, rfl, rfl, rfl⟩⟩
  · rintro e w' ⟨w2, hb, (⟨_, h⟩ | ⟨x, rfl, rfl, rfl⟩)⟩
    · exact h.elim
    · refine ⟨rfl, ?_, ?_, ?_, ?_⟩
      · rw [hb.cell k1, old_cell k1, h1]
      · rw [hb.cell k2, old_cell k2, h2]
      · rw [hb.cell k3, old_cell k3, h3]
      · exact ((Below.refl r.block w).alloc (by omega) _).trans (hb.mono (by omega))
theorem two_boxes {w w1 : World} {b : Bool} {c : Int} (hb : Below ((w.alloc (.cells #[.bool b] 4)).alloc (.cells #[.int .i64 c] 3)).heap.size ((w.alloc (.cells #[.bool b] 4)).alloc (.cells #[.int .i64 c] 3)) w1) :
    w.heap.size + 2 ≤ w1.heap.size ∧ Below w.heap.size w w1 ∧ w1.cell? ⟨w.heap.size, 0, none⟩ = some (.bool b) ∧ w1.cell? ⟨w.heap.size + 1, 0, none⟩ = some (.int .i64 c) := by
  have e1 : (w.alloc (.cells #[.bool b] 4)).heap.size = w.heap.size + 1 := by simp
  have e2 : ((w.alloc (.cells #[.bool b] 4)).alloc (.cells #[.int .i64 c] 3)).heap.size = w.heap.size + 2 := by simp
  have hs := hb.size
  obtain ⟨n1, _⟩ := new_cell w #[.bool b] 4 (.bool b) rfl
  obtain ⟨n2, _⟩ := new_cell (w.alloc (.cells #[.bool b] 4)) #[.int .i64 c] 3 (.int .i64 c) rfl
  rw [e1] at n2
  refine ⟨by omega, (((Below.refl w.heap.size w).alloc (Nat.le_refl _) _).alloc (by omega) _).trans (hb.mono (by omega)), ?_, ?_⟩
  · rw [hb.cell (p := ⟨w.heap.size, 0, none⟩) (by simp only; omega), old_cell (a := ⟨w.heap.size, 0, none⟩) (by simp only; omega)]; exact n1
  · rw [hb.cell (p := ⟨w.heap.size + 1, 0, none⟩) (by simp only; omega)]; exact n2
theorem third_box {w1 : World} {a : Addr} {v : Value} (x : Int) (h : w1.cell? a = some v) : (w1.alloc (.cells #[.int .i64 x] 3)).cell? a = some v := by
  rw [old_cell (lt_of_cell h)]; exact h
theorem guardNeeds_true (c : Int) (w : World) : Calls Try.prog 4 #[.bool true, .int .i64 c] w fun e w' => e = .returned (.bool true) ∧ Below w.heap.size w w' := by
  have hmf : ∀ (fn : Fn) (first cap : Array Value) (w : World), (Instr.makeFunc fn first cap).run Try.prog w = .ok (.func fn first cap) w := fun _ _ _ _ => rfl
  have hnot : ∀ (x : Bool) (w : World), (Op.unary .not (.bool x)).run Try.prog w = .ok (.bool (!x)) w := fun _ _ => rfl
  go_enter Try.func4, Try.ntmps4
  go_wp2_with (go_at_call 6; refine (awake_any _).mono ?_; rintro e w1 ⟨rfl, hb1⟩)
  go_at_call 7
  obtain ⟨hs, hbw, c1, c2⟩ := two_boxes hb1
  obtain ⟨n1, n2⟩ := new_cell w1 #[.int .i64 0] 3 (.int .i64 0) rfl
  refine (try_needs_true ⟨w.heap.size, 0, none⟩ ⟨w.heap.size + 1, 0, none⟩ ⟨w1.heap.size, 0, none⟩ c _ (third_box 0 c1) (third_box 0 c2) n1 n2 (show w.heap.size < w1.heap.size by omega) (show w.heap.size + 1 < w1.heap.size by omega)).mono ?_
  rintro e w2 ⟨rfl, d1, d2, hb2⟩
  have hfin : Below w.heap.size w w2 := (hbw.alloc (by omega) _).trans (hb2.mono (by simp only; omega))
  clear hb1 c1 c2 n1 n2
  go_wp2
  go_ret
  exact ⟨rfl, hfin⟩
theorem guardNeeds_false (c : Int) (w : World) : Calls Try.prog 4 #[.bool false, .int .i64 c] w fun e w' => e = .returned (.bool true) ∧ Below w.heap.size w w' := by
  have hmf : ∀ (fn : Fn) (first cap : Array Value) (w : World), (Instr.makeFunc fn first cap).run Try.prog w = .ok (.func fn first cap) w := fun _ _ _ _ => rfl
  have hnot : ∀ (x : Bool) (w : World), (Op.unary .not (.bool x)).run Try.prog w = .ok (.bool (!x)) w := fun _ _ => rfl
  go_enter Try.func4, Try.ntmps4
  go_wp2_with (go_at_call 6; refine (awake_any _).mono ?_; rintro e w1 ⟨rfl, hb1⟩)
  go_at_call 7
  obtain ⟨hs, hbw, c1, c2⟩ := two_boxes hb1
  obtain ⟨n1, n2⟩ := new_cell w1 #[.int .i64 0] 3 (.int .i64 0) rfl
  refine (try_needs_false ⟨w.heap.size, 0, none⟩ ⟨w.heap.size + 1, 0, none⟩ ⟨w1.heap.size, 0, none⟩ c _ (third_box 0 c1) (third_box 0 c2) n1 (show w.heap.size < w1.heap.size by omega) (show w.heap.size + 1 < w1.heap.size by omega)).mono ?_
  rintro e w2 ⟨rfl, d1, d3, d2, hb2⟩
  have hfin : Below w.heap.size w w2 := (hbw.alloc (by omega) _).trans (hb2.mono (by simp only; omega))
  clear hb1 c1 c2 n1 n2
  go_wp2
  go_ret
  exact ⟨rfl, hfin⟩
end Go.Proofs.Ytfdpnmohpdekiaa.Guard
