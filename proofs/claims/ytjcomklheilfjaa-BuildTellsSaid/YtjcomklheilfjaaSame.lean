/- Layer 7: Same, of two lists that read alike. -/
import Derived.Test.YtjcomklheilfjaaStep
import Derived.Deep.QuietTactic
import Derived.BigQuiet
set_option linter.unusedVariables false
set_option linter.unusedSimpArgs false
namespace Go.Proofs.Ytjcomklheilfjaa.Build
open Go.RowKit Go

theorem PrimsR.form {w : World} {v : Value} {ps : List PrimD} (h : PrimsR w v ps) : ∃ a cap, v = .slice a ps.length cap := by
  rcases h with ⟨rfl, a, cap, rfl⟩ | ⟨g, cap, rfl, _⟩
  · exact ⟨a, cap, rfl⟩
  · exact ⟨_, cap, rfl⟩
theorem ERow.form {w : World} {v : Value} {E : List Bool} (h : ERow w v E) : ∃ a cap, v = .slice a E.length cap ∧ ∀ k, k < E.length → ∃ g, a = some ⟨g, 0, none⟩ ∧ w.cell? ⟨g, k, none⟩ = some (.bool (E.getD k false)) := by
  rcases h with ⟨rfl, rfl⟩ | ⟨g, cap, rfl, _, h1⟩
  · exact ⟨none, 0, rfl, fun k hk => by simp at hk⟩
  · exact ⟨_, cap, rfl, fun k hk => ⟨g, rfl, h1 k hk⟩⟩
/-- The cells of element i. -/
theorem PrimsR.at {w : World} {a : Option Addr} {n cap : Nat} {ps : List PrimD} (h : PrimsR w (.slice a n cap) ps) {i : Nat} (hi : i < ps.length) : ∃ g vg vc ea ec, a = some ⟨g, 0, none⟩ ∧ w.cell? ⟨g, i * 3, none⟩ = some (.slice (some ⟨vg, 0, none⟩) (ps.getD i ⟨[], [], 0⟩).V.length vc) ∧ w.cell? ⟨g, i * 3 + 1, none⟩ = some (.slice ea (ps.getD i ⟨[], [], 0⟩).E.length ec) ∧ w.cell? ⟨g, i * 3 + 2, none⟩ = some (.int .i64 (ps.getD i ⟨[], [], 0⟩).P) ∧
    (∀ k, k < (ps.getD i ⟨[], [], 0⟩).V.length → w.cell? ⟨vg, k, none⟩ = some (.int .i64 ((ps.getD i ⟨[], [], 0⟩).V.getD k 0))) ∧ (∀ k, k < (ps.getD i ⟨[], [], 0⟩).E.length → ∃ eg, ea = some ⟨eg, 0, none⟩ ∧ w.cell? ⟨eg, k, none⟩ = some (.bool ((ps.getD i ⟨[], [], 0⟩).E.getD k false))) := by
  have hp : ps[i]? = some (ps.getD i ⟨[], [], 0⟩) := by simp [List.getD_eq_getElem?_getD, hi]
  rcases h with ⟨rfl, _⟩ | ⟨g, cap', e, h1⟩
  · simp at hi
  · simp only [Value.slice.injEq] at e
    obtain ⟨rfl, rfl, rfl⟩ := e
    obtain ⟨vv, ve, c1, c2, c3, ⟨vg, vc, rfl, _, hV⟩, c5⟩ := h1 i _ hp
    obtain ⟨ea, ec, rfl, hE⟩ := c5.form
    exact ⟨g, vg, vc, ea, ec, rfl, c1, c2, c3, hV, hE⟩
theorem dN (w : World) (n : Nat) : Below w.heap.size w (w.drewN n) := ⟨rfl, rfl, rfl, Nat.le_refl _, fun _ _ => rfl⟩
set_option maxHeartbeats 4000000 in
set_option maxRecDepth 100000 in
theorem same_true (v u : Value) (ps : List PrimD) (w : World) (hlen : ps.length ≤ 100000) (hV : ∀ p ∈ ps, p.V.length ≤ 100000 ∧ p.E.length ≤ 100000) (h1 : PrimsR w v ps) (h2 : PrimsR w u ps) : Calls Try.prog 11 #[v, u] w fun e w' => e = .returned (.bool true) ∧ Below w.heap.size w w' := by
  obtain ⟨va, vcap, rfl⟩ := h1.form
  obtain ⟨ua, ucap, rfl⟩ := h2.form
  have hVH := hide hV
  have hs0 : Hid (PrimsR w (.slice va ps.length vcap) ps ∧ PrimsR w (.slice ua ps.length ucap) ps ∧ Below w.heap.size w w) := ⟨h1, h2, Below.refl _ _⟩
  clear h1 h2 hV
  have hlI : (ps.length : Int) ≤ 100000 := by omega
  go_enter Try.func11, Try.ntmps11
  go_wp2_with fail
  go_loopw [5] (fun i wr => ∃ k : Nat, k ≤ ps.length ∧ i = .int .i64 k ∧ Hid (PrimsR wr (.slice va ps.length vcap) ps ∧ PrimsR wr (.slice ua ps.length ucap) ps ∧ Below w.heap.size w wr))
    (fun i _ => ps.length - (intOf i).toNat)
  case atStart => exact ⟨0, Nat.zero_le _, rfl, hs0⟩
  case round =>
    obtain ⟨k, hk, rfl, hR⟩ := hrel
    clear hs0
    rcases Nat.lt_or_ge k ps.length with hlt | hge
    · have hlk : (k : Int) < (ps.length : Int) := by omega
      obtain ⟨g, vg, vc, ea, ec, hva, a0, a1, a2, hvc, hec⟩ := hR.out.1.at hlt
      obtain ⟨g', vg', vc', ea', ec', hua, b0, b1, b2, hvc', hec'⟩ := hR.out.2.1.at hlt
      have hpm := hVH.out (ps.getD k ⟨[], [], 0⟩) (by simp [List.getD_eq_getElem?_getD, hlt])
      obtain ⟨L, hL⟩ : ∃ L, Hid (L = (ps.getD k ⟨[], [], 0⟩).V.length) := ⟨_, rfl⟩
      obtain ⟨EL, hEL⟩ : ∃ EL, Hid (EL = (ps.getD k ⟨[], [], 0⟩).E.length) := ⟨_, rfl⟩
      obtain ⟨PP, hPP⟩ : ∃ PP, Hid (PP = (ps.getD k ⟨[], [], 0⟩).P) := ⟨_, rfl⟩
      rw [← hL.out] at a0 b0 hvc hvc' hpm
      rw [← hEL.out] at a1 b1 hec hec' hpm
      rw [← hPP.out] at a2 b2
      have hvcH := hide hvc
      have hvcH' := hide hvc'
      have hecH := hide hec
      have hecH' := hide hec'
      subst hva
      subst hua
      obtain ⟨hp1, hp2⟩ := hpm
      have hp1I : (L : Int) ≤ 100000 := by omega
      have hp2I : (EL : Int) ≤ 100000 := by omega
      clear hvc hvc' hec hec'
      go_wp2_with fail
      go_quiet (fail)
      obtain ⟨wq, hwq⟩ : ∃ wq, Hid (wq = wr.drewN nq) := ⟨_, rfl⟩
      have hbq : Hid (Below wr.heap.size wr wq) := by rw [hwq.out]; exact dN wr nq
      rw [← hwq.out]
      have a0q := keep_cell hbq.out a0
      have a1q := keep_cell hbq.out a1
      have b0q := keep_cell hbq.out b0
      have b1q := keep_cell hbq.out b1
      have hstart : Hid (Below wr.heap.size wr wq) := hbq
      obtain ⟨wo, rfl⟩ : ∃ x, x = wr := ⟨wr, rfl⟩
      go_wp2_with fail
      go_loopw [6] (fun j wx => ∃ q : Nat, q ≤ L ∧ j = .int .i64 q ∧ Hid (Below wo.heap.size wo wx)) (fun j _ => L - (intOf j).toNat)
      case atStart => exact ⟨0, Nat.zero_le _, rfl, hstart⟩
      case round =>
        obtain ⟨q, hq, rfl, hbx⟩ := hrel
        clear a0q a1q b0q b1q
        have a0x := keep_cell hbx.out a0
        have b0x := keep_cell hbx.out b0
        rcases Nat.lt_or_ge q L with hqlt | hqge
        · have hqI : (q : Int) < (L : Int) := by omega
          obtain ⟨X, hX⟩ : ∃ X, Hid (X = (ps.getD k ⟨[], [], 0⟩).V.getD q 0) := ⟨_, rfl⟩
          have x1 : wr.cell? ⟨vg, q, none⟩ = some (.int .i64 X) := by rw [hX.out]; exact keep_cell hbx.out (hvcH.out q hqlt)
          have x2 : wr.cell? ⟨vg', q, none⟩ = some (.int .i64 X) := by rw [hX.out]; exact keep_cell hbx.out (hvcH'.out q hqlt)
          go_wp2_with fail
          go_quiet (fail)
          have hbz : Hid (∀ n, Below wo.heap.size wo (wr.drewN n)) := fun n => hbx.out.trans ((dN wr n).mono hbx.out.size)
          clear a0x b0x x1 x2
          go_wp2_with fail
          refine ⟨⟨q + 1, hqlt, rfl, hbz.out _⟩, ?_⟩
          simp [intOf]; omega
        · have hqI : ¬ (q : Int) < (L : Int) := by omega
          have hst2 : Hid (Below wo.heap.size wo wr) := hbx
          go_wp2_with fail
          go_loopw [7] (fun j wx => ∃ q : Nat, q ≤ EL ∧ j = .int .i64 q ∧ Hid (Below wo.heap.size wo wx)) (fun j _ => EL - (intOf j).toNat)
          case atStart => exact ⟨0, Nat.zero_le _, rfl, hst2⟩
          case round =>
            obtain ⟨q', hq', rfl, hby⟩ := hrel
            clear a0x b0x hbx hst2
            have a1x := keep_cell hby.out a1
            have b1x := keep_cell hby.out b1
            rcases Nat.lt_or_ge q' EL with hrlt | hrge
            · have hrI : (q' : Int) < (EL : Int) := by omega
              obtain ⟨X, hX⟩ : ∃ X, Hid (X = (ps.getD k ⟨[], [], 0⟩).E.getD q' false) := ⟨_, rfl⟩
              obtain ⟨eg, hea, hx1⟩ := hecH.out q' hrlt
              obtain ⟨eg', hea', hx2⟩ := hecH'.out q' hrlt
              subst hea
              subst hea'
              have x1 : wr.cell? ⟨eg, q', none⟩ = some (.bool X) := by rw [hX.out]; exact keep_cell hby.out hx1
              have x2 : wr.cell? ⟨eg', q', none⟩ = some (.bool X) := by rw [hX.out]; exact keep_cell hby.out hx2
              clear hx1 hx2
              go_wp2_with fail
              go_quiet (fail)
              have hbz : Hid (∀ n, Below wo.heap.size wo (wr.drewN n)) := fun n => hby.out.trans ((dN wr n).mono hby.out.size)
              clear a1x b1x x1 x2
              go_wp2_with fail
              refine ⟨⟨q' + 1, hrlt, rfl, hbz.out _⟩, ?_⟩
              simp [intOf]; omega
            · have hrI : ¬ (q' : Int) < (EL : Int) := by omega
              have hnext : Hid (PrimsR wr (.slice (some ⟨g, 0, none⟩) ps.length vcap) ps ∧ PrimsR wr (.slice (some ⟨g', 0, none⟩) ps.length ucap) ps ∧ Below w.heap.size w wr) := ⟨hR.out.1.below hby.out, hR.out.2.1.below hby.out, hR.out.2.2.trans (hby.out.mono hR.out.2.2.size)⟩
              go_wp2_with fail
              refine ⟨⟨k + 1, hlt, rfl, hnext⟩, ?_⟩
              simp [intOf]; omega
    · have hlk : ¬ (k : Int) < (ps.length : Int) := by omega
      go_wp2_with fail
      go_ret
      exact ⟨rfl, hR.out.2.2⟩
end Go.Proofs.Ytjcomklheilfjaa.Build
