/- Layer 3: Fail, Need, Try: what each call does, its panics too. -/
import Derived.Test.YtfdpnmohpdekiaaRows
import Derived.WalkKit
import Derived.WalkSpells
import Derived.WalkLawsBesides
import Derived.Defers
import Derived.Recover
set_option linter.unusedVariables false
set_option linter.unusedSimpArgs false
namespace Go.Proofs.Ytfdpnmohpdekiaa.Guard
open Go.RowKit Go

/-- What giving up with a number panics with. -/
def given (c : Int) : PanicEntry := { v := .iface 41 (.agg #[.int .i64 c]), recovered := false }

theorem fail_any (c : Int) (w : World) : Calls Try.prog 16 #[.int .i64 c] w fun e w' => e = .panicked [given c] ∧ w' = w := by
  go_enter Try.func16, Try.ntmps16
  go_wp2
  exact ⟨rfl, rfl, rfl⟩

theorem need_true (c : Int) (w : World) : Calls Try.prog 13 #[.bool true, .int .i64 c] w fun e w' => e = .returned (.tuple #[]) ∧ w' = w := by
  have hnot : ∀ (x : Bool) (w : World), (Op.unary .not (.bool x)).run Try.prog w = .ok (.bool (!x)) w := fun _ _ => rfl
  go_enter Try.func13, Try.ntmps13
  go_wp2
  go_end0
  exact ⟨rfl, rfl⟩
theorem need_false (c : Int) (w : World) : Calls Try.prog 13 #[.bool false, .int .i64 c] w fun e w' => e = .panicked [given c] ∧ w' = w := by
  have hnot : ∀ (x : Bool) (w : World), (Op.unary .not (.bool x)).run Try.prog w = .ok (.bool (!x)) w := fun _ _ => rfl
  go_enter Try.func13, Try.ntmps13
  go_wp2
  exact ⟨rfl, rfl, rfl, rfl⟩

theorem lt_of_cell {w : World} {p : Addr} {v : Value} (h : w.cell? p = some v) : p.block < w.heap.size := by
  rcases Nat.lt_or_ge p.block w.heap.size with h1 | h1
  · exact h1
  · have : w.heap[p.block]? = none := Array.getElem?_eq_none h1
    simp [World.cell?, this] at h
theorem catch_panicking (p : Addr) (x c : Int) (older : List PanicEntry) (w : World) (hc : w.cell? p = some (.int .i64 x)) (hz : w.frozen? p = false) :
    CallsD Try.prog 20 #[.pointer (some p)] (.panicking (given c :: older)) w fun e u' w' =>
      e = .returned (.tuple #[]) ∧ u' = .panicking ({ given c with recovered := true } :: older) ∧ w' = (w.alloc (.cells #[.int .i64 c] 41)).setCell p (.int .i64 c) := by
  refine callsD_of_wpS Try.func20 rfl fun c₀ cs hu => ?_
  apply wpS_seq
  apply wpS_region
  simp [wpOpsS, go_sem, recoverD, hu, Try.ntmps20, Exit.thenS, given]
  refine wpS_of_wp ?_
  have hta : ∀ (w : World), (Instr.typeAssert (.iface 41 (.agg #[.int .i64 c])) 20 41 true).run Try.prog w = .ok (.tuple #[.agg #[.int .i64 c], .bool true]) w := fun _ => rfl
  have hlt : p.block < w.heap.size := lt_of_cell hc
  have hc2 : ∀ o, (w.alloc o).cell? p = some (.int .i64 x) := fun o => by rw [World.cell?_alloc_old (h := by omega)]; exact hc
  have hz2 : ∀ o, (w.alloc o).frozen? p = false := fun o => by rw [World.frozen?_alloc_old (h := by omega)]; exact hz
  change Code.wp _ _ _ { tmps := #[.pointer (some p), undef, undef, undef, .iface 41 (.agg #[.int .i64 c]), undef, undef, undef, undef, undef, undef, undef], defers := [] } w
  go_wp2
  cases c₀
  simp_all [bodyPostS, results, Try.results20]

theorem catch_idle (p : Addr) (w : World) :
    CallsD Try.prog 20 #[.pointer (some p)] .returning w fun e u' w' => e = .returned (.tuple #[]) ∧ u' = .returning ∧ w' = w := by
  refine callsD_of_wpS Try.func20 rfl fun c₀ cs hu => ?_
  apply wpS_seq
  apply wpS_region
  simp [wpOpsS, go_sem, recoverD, hu, Try.ntmps20, Exit.thenS, given]
  refine wpS_of_wp ?_
  change Code.wp _ _ _ { tmps := #[.pointer (some p), undef, undef, undef, .nilIface, undef, undef, undef, undef, undef, undef, undef], defers := [] } w
  go_wp2
  cases c₀
  simp_all [bodyPostS, results, Try.results20]
/-- **Try**: what is done up to where it gives up, and with what. -/
theorem try_any {cl : FuncId} {caps : Array Value} {w : World} {P0 : World → Prop} {P1 : Int → World → Prop}
    (hrun : ∀ w, (callFunc cl caps).run Try.prog w = .ok (.enter cl caps) w)
    (hc : Calls Try.prog cl caps (w.alloc (.cells #[.int .i64 0] 25)) fun e w2 =>
      (w2.cell? ⟨w.heap.size, 0, none⟩ = some (.int .i64 0) ∧ w2.frozen? ⟨w.heap.size, 0, none⟩ = false) ∧ ((e = .returned (.tuple #[]) ∧ P0 w2) ∨ ∃ c, e = .panicked [given c] ∧ P1 c w2)) :
    Calls Try.prog 7 #[.func (.func cl) #[] caps] w fun e w' => ∃ w2, Below w.heap.size w2 w' ∧ ((e = .returned (.int .i64 0) ∧ P0 w2) ∨ ∃ c, e = .returned (.int .i64 c) ∧ P1 c w2) := by
  have hmf : ∀ (fn : Fn) (first cap : Array Value) (w : World), (Instr.makeFunc fn first cap).run Try.prog w = .ok (.func fn first cap) w := fun _ _ _ _ => rfl
  go_enter_defers Try.func7, Try.ntmps7
  go_wp2
  refine hc.mono ?_
  rintro e w2 ⟨⟨hcell, hfr⟩, (⟨rfl, hP⟩ | ⟨c, rfl, hP⟩)⟩
  · go_wp2
    refine leaves_cons (f := 20) (args := #[.pointer (some ⟨w.heap.size, 0, none⟩)]) (by simp) (by simp [go_sem]) ?_
    refine (catch_idle ⟨w.heap.size, 0, none⟩ _).mono ?_
    rintro e u' w'' ⟨rfl, rfl, rfl⟩
    refine ⟨.int .i64 0, ?_, w2, (Below.refl w.heap.size w2).setCell (p := ⟨w.heap.size, 0, none⟩) (Nat.le_refl _) _, .inl ⟨rfl, hP⟩⟩
    simp [results, Try.results7, go_sem, hcell]
  · refine leaves_cons (f := 20) (args := #[.pointer (some ⟨w.heap.size, 0, none⟩)]) (by simp) (by simp [go_sem]) ?_
    refine (catch_panicking ⟨w.heap.size, 0, none⟩ 0 c [] _ hcell hfr).mono ?_
    rintro e u' w'' ⟨rfl, rfl, rfl⟩
    have hlt := lt_of_cell hcell
    simp only at hlt
    have hc2 : (w2.alloc (.cells #[.int .i64 c] 41)).cell? ⟨w.heap.size, 0, none⟩ = some (.int .i64 0) := by rw [World.cell?_alloc_past _ _ _ hlt]; exact hcell
    refine ⟨.int .i64 c, ?_, w2, ((Below.refl w.heap.size w2).alloc (by omega) _).setCell (p := ⟨w.heap.size, 0, none⟩) (Nat.le_refl _) _, .inr ⟨c, rfl, hP⟩⟩
    simp [results, Try.results7, go_sem, hc2]
end Go.Proofs.Ytfdpnmohpdekiaa.Guard
