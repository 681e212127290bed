/- Layer 3: Try over a closure that plays. -/
import Derived.Test.YtfdpnmohpdekiaaPlayKit
set_option linter.unusedVariables false
set_option linter.unusedSimpArgs false
namespace Go.Proofs.Ytfdpnmohpdekiaa.Guard
open Go.RowKit Go

/-- Only block n has turned, and new blocks. -/
structure Only (n : Nat) (w w' : World) : Prop where
  os : w'.os = w.os
  tape : w'.tape = w.tape
  output : w'.output = w.output
  size : w.heap.size ≤ w'.heap.size
  block : ∀ k, k < w.heap.size → k ≠ n → w'.heap[k]? = w.heap[k]?
theorem Only.set (n : Nat) (w : World) {a : Addr} (ha : a.block = n) (u : Value) : Only n w (w.setCell a u) :=
  ⟨rfl, rfl, rfl, by simp [World.setCell], fun k _ hk => Below.heap_setCell _ _ _ _ (by rw [ha]; exact hk)⟩
theorem Only.alloc_set (n : Nat) (w : World) (o : Obj) {a : Addr} (ha : a.block = n) (u : Value) : Only n w ((w.alloc o).setCell a u) :=
  ⟨rfl, rfl, rfl, by simp [World.setCell], fun k hk hn => (Below.heap_setCell _ _ _ _ (by rw [ha]; exact hn)).trans (Below.heap_alloc _ _ _ hk)⟩
/-- Try, of a closure that may write: all but the named result's own block stays. -/
theorem try_own {cl : FuncId} {caps : Array Value} {w : World} {P0 : World → Prop} {P1 : Int → World → Prop}
    (hrun : ∀ w, (callFunc cl caps).run Try.prog w = .ok (.enter cl caps) w)
    (hc : Calls Try.prog cl caps (w.alloc (.cells #[.int .i64 0] 25)) fun e w2 =>
      (w2.cell? ⟨w.heap.size, 0, none⟩ = some (.int .i64 0) ∧ w2.frozen? ⟨w.heap.size, 0, none⟩ = false) ∧ ((e = .returned (.tuple #[]) ∧ P0 w2) ∨ ∃ c, e = .panicked [given c] ∧ P1 c w2)) :
    Calls Try.prog 7 #[.func (.func cl) #[] caps] w fun e w' => ∃ w2, Only w.heap.size w2 w' ∧ ((e = .returned (.int .i64 0) ∧ P0 w2) ∨ ∃ c, e = .returned (.int .i64 c) ∧ P1 c w2) := by
  have hmf : ∀ (fn : Fn) (first cap : Array Value) (w : World), (Instr.makeFunc fn first cap).run Try.prog w = .ok (.func fn first cap) w := fun _ _ _ _ => rfl
  go_enter_defers Try.func7, Try.ntmps7
  go_wp2
  refine hc.mono ?_
  rintro e w2 ⟨⟨hcell, hfr⟩, (⟨rfl, hP⟩ | ⟨c, rfl, hP⟩)⟩
  · go_wp2
    refine leaves_cons (f := 20) (args := #[.pointer (some ⟨w.heap.size, 0, none⟩)]) (by simp) (by simp [go_sem]) ?_
    refine (catch_idle ⟨w.heap.size, 0, none⟩ _).mono ?_
    rintro e u' w'' ⟨rfl, rfl, rfl⟩
    refine ⟨.int .i64 0, ?_, w2, Only.set w.heap.size w2 (a := ⟨w.heap.size, 0, none⟩) rfl _, .inl ⟨rfl, hP⟩⟩
    simp [results, Try.results7, go_sem, hcell]
  · refine leaves_cons (f := 20) (args := #[.pointer (some ⟨w.heap.size, 0, none⟩)]) (by simp) (by simp [go_sem]) ?_
    refine (catch_panicking ⟨w.heap.size, 0, none⟩ 0 c [] _ hcell hfr).mono ?_
    rintro e u' w'' ⟨rfl, rfl, rfl⟩
    have hlt := lt_of_cell hcell
    simp only at hlt
    have hc2 : (w2.alloc (.cells #[.int .i64 c] 41)).cell? ⟨w.heap.size, 0, none⟩ = some (.int .i64 0) := by rw [World.cell?_alloc_past _ _ _ hlt]; exact hcell
    refine ⟨.int .i64 c, ?_, w2, Only.alloc_set w.heap.size w2 _ (a := ⟨w.heap.size, 0, none⟩) rfl _, .inr ⟨c, rfl, hP⟩⟩
    simp [results, Try.results7, go_sem, hc2]

def endOf (g : Option Int) : Ending := match g with
  | none => .returned (.tuple #[])
  | some c => .panicked [given c]
def ints (xs : List Int) : List Value := xs.map (Value.int .i64)
/-- What holds behind play. -/
def After (po : Addr) (v : Value) (B : Nat) (acc : List Int) (w : World) (r : List Int × Option Int) (w' : World) : Prop :=
  ∃ v', w'.cell? po = some v' ∧ w'.frozen? po = false ∧ w'.ownsRow B 3 1 v' (acc ++ r.1).length (ints (acc ++ r.1)) ∧ Turned po.block w v w' v'
theorem play_closure {sv : Value} {po pin p3 : Addr} {w : World} {R : Ending → World → Prop} (hin : w.cell? pin = some sv) (hp3 : w.cell? p3 = some (.pointer (some po)))
    (h9 : Calls Try.prog 9 #[sv, .pointer (some po)] w fun e w' => (e = .returned (.tuple #[]) ∨ ∃ c, e = .panicked c) ∧ R e w') : Calls Try.prog 21 #[.pointer (some pin), .pointer (some p3)] w R := by
  go_enter Try.func21, Try.ntmps21
  go_wp2_with (go_at_call 9; refine h9.mono ?_; rintro e w1 ⟨(rfl | ⟨c, rfl⟩), hR⟩)
  · go_end0
    exact hR
  · exact ⟨rfl, hR⟩
theorem end_form (g : Option Int) : endOf g = .returned (.tuple #[]) ∨ ∃ c, endOf g = .panicked c := by
  cases g
  · exact .inl rfl
  · exact .inr ⟨_, rfl⟩
theorem try_play {sv : Value} {po pin p3 : Addr} {v : Value} {B : Nat} {acc : List Int} {w : World} {r : List Int × Option Int} (hin : w.cell? pin = some sv) (hp3 : w.cell? p3 = some (.pointer (some po))) (hpo : po.block < w.heap.size) (hv : ∀ g, v.ownBlock = some g → g < w.heap.size)
    (h9 : Calls Try.prog 9 #[sv, .pointer (some po)] (w.alloc (.cells #[.int .i64 0] 25)) fun e w' => e = endOf r.2 ∧ After po v B acc (w.alloc (.cells #[.int .i64 0] 25)) r w') :
    Calls Try.prog 7 #[.func (.func 21) #[] #[.pointer (some pin), .pointer (some p3)]] w fun e w' => e = .returned (.int .i64 (r.2.getD 0)) ∧ After po v B acc w r w' := by
  obtain ⟨n1, n2⟩ := new_cell w #[.int .i64 0] 25 (.int .i64 0) rfl
  have e1 : (w.alloc (.cells #[.int .i64 0] 25)).heap.size = w.heap.size + 1 := by simp
  refine (try_own (cl := 21) (caps := #[.pointer (some pin), .pointer (some p3)]) (P0 := fun w2 => r.2 = none ∧ After po v B acc (w.alloc (.cells #[.int .i64 0] 25)) r w2) (P1 := fun c w2 => r.2 = some c ∧ After po v B acc (w.alloc (.cells #[.int .i64 0] 25)) r w2) (fun _ => rfl)
    (play_closure (by rw [old_cell (lt_of_cell hin)]; exact hin) (by rw [old_cell (lt_of_cell hp3)]; exact hp3) (h9.mono ?_))).mono ?_
  · rintro e w2 ⟨rfl, ha⟩
    refine ⟨end_form _, ?_, ?_⟩
    · obtain ⟨v', _, _, _, ht⟩ := ha
      have h1 : (⟨w.heap.size, 0, none⟩ : Addr).block < (w.alloc (.cells #[.int .i64 0] 25)).heap.size := by simp
      have h2 : (⟨w.heap.size, 0, none⟩ : Addr).block ≠ po.block := by simp only; omega
      have h3 : v.ownBlock ≠ some (⟨w.heap.size, 0, none⟩ : Addr).block := fun e => by have := hv _ e; simp only at this; omega
      exact ⟨by rw [ht.cell h1 h2 h3]; exact n1, by rw [ht.frozen h1 h2 h3]; exact n2⟩
    · cases hr : r.2 with
      | none => exact .inl ⟨rfl, rfl, ha⟩
      | some c => exact .inr ⟨c, rfl, rfl, ha⟩
  · have key : ∀ w2 w', Only w.heap.size w2 w' → After po v B acc (w.alloc (.cells #[.int .i64 0] 25)) r w2 → After po v B acc w r w' := by
      rintro w2 w' ho ⟨v', c1, c2, c3, ht⟩
      have hp2 := lt_of_cell c1
      have hs := ht.size
      have hvne : ∀ g, v'.ownBlock = some g → g ≠ w.heap.size := fun g hg e => by
        rcases ht.own g hg with h | h
        · have := hv g h; omega
        · omega
      refine ⟨v', ?_, ?_, owns_keep c3 (fun g hg => ho.block g (owns_lt c3 hg) (hvne g hg)), ?_⟩
      · rw [World.cell?_of_block (w := w2) (ho.block _ hp2 (by omega))]; exact c1
      · rw [World.frozen?_of_block (w := w2) (ho.block _ hp2 (by omega))]; exact c2
      · refine ⟨ho.os.trans ht.os, ho.tape.trans ht.tape, ho.output.trans ht.output, by have := ho.size; omega, fun k hk hkp hkv => ?_, fun g hg => ?_⟩
        · rw [ho.block k (by omega) (by omega), ht.block k (by omega) hkp hkv]
          exact Below.heap_alloc _ _ _ hk
        · rcases ht.own g hg with h | h
          · exact .inl h
          · right; omega
    rintro e w' ⟨w2, ho, (⟨rfl, hr, ha⟩ | ⟨c, rfl, hr, ha⟩)⟩
    · exact ⟨by rw [hr]; rfl, key w2 w' ho ha⟩
    · exact ⟨by rw [hr]; rfl, key w2 w' ho ha⟩
end Go.Proofs.Ytfdpnmohpdekiaa.Guard
