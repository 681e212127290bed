/- Layer 7: the law BuildFlags, walked: the modes whose sides may be none. -/
import Derived.Test.YtjcomklheilfjaaFlags
set_option linter.unusedVariables false
set_option linter.unusedSimpArgs false
namespace Go.Proofs.Ytjcomklheilfjaa.Build
open Go.RowKit Go

set_option maxHeartbeats 4000000 in
set_option maxRecDepth 100000 in
theorem flags_4 (n8 : Nat) (hn8 : n8 < 256) (fb : Option Addr) (fcap : Nat) (fs : List Bool) (first : Bool) (w : World) (hl : fs.length ≤ 100) (hm : n8 % 10 = 4) (hF : FlagR w fb fs) (hok : ∀ p ∈ primsA 4 fs first, FlagOk 4 fs p) (hlen : (primsA 4 fs first).length ≤ 1000) :
    Calls Try.prog 7 #[.int .u8 n8, .slice fb fs.length fcap, .bool first] w fun e w' => e = .returned (.bool true) ∧ Below w.heap.size w w' := by
  have h : ¬ (100 : Int) < (fs.length : Int) := by omega
  have hmI : (n8 : Int) % 10 = 4 := by omega
  have hp := hide (prims_any 4 fb fcap fs first w (fun _ => hF))
  have he : errF 4 fs.length = 0 := by unfold errF; rw [if_neg (by omega), if_neg (by omega)]
  have hokH := hide hok
  have hFH := hide hF
  have heH := hide he
  clear hok hF he
  go_enter Try.func7, Try.ntmps7
  go_wp2_with (go_at_call 99)
  go_at_call 9
  refine hp.out.mono ?_
  rintro e w0 ⟨v, rfl, hR, hb0⟩
  rw [heH.out]
  obtain ⟨ps, hps⟩ : ∃ ps, Hid (ps = primsA 4 fs first) := ⟨_, rfl⟩
  rw [← hps.out] at hR hlen hokH
  obtain ⟨va, vc, hv⟩ := hR.form
  subst hv
  have hRH := hide hR
  have hb0H := hide hb0
  have hlenI : (ps.length : Int) ≤ 1000 := by omega
  clear hR hb0 hp
  have hs0 : Hid (Below w0.heap.size w0 w0) := Below.refl _ _
  go_wp2_with (go_at_call 99)
  go_loopw [10] (fun i wr => ∃ k : Nat, k ≤ ps.length ∧ i = .int .i64 k ∧ Hid (Below w0.heap.size w0 wr)) (fun i _ => ps.length - (intOf i).toNat)
  case atStart => exact ⟨0, Nat.zero_le _, rfl, hs0⟩
  case round =>
    obtain ⟨k, hk, rfl, hbl⟩ := hrel
    clear hs0
    rcases Nat.lt_or_ge k ps.length with hlt | hge
    · have hlk : (k : Int) < (ps.length : Int) := by omega
      obtain ⟨g, vg, vcc, ea, ec, hva, a0, a1, a2, hvc, hec⟩ := (hRH.out.below hbl.out).at hlt
      have hpm := hokH.out (ps.getD k ⟨[], [], 0⟩) (by simp [List.getD_eq_getElem?_getD, hlt])
      obtain ⟨P0, hP0⟩ : ∃ P0, Hid (P0 = ps.getD k ⟨[], [], 0⟩) := ⟨_, rfl⟩
      rw [← hP0.out] at a0 a1 hvc hec hpm
      obtain ⟨L, hL⟩ : ∃ L, Hid (L = P0.V.length) := ⟨_, rfl⟩
      obtain ⟨EL, hEL⟩ : ∃ EL, Hid (EL = P0.E.length) := ⟨_, rfl⟩
      have hpmH := hide hpm
      have hLs : (L : Int) ≤ 256 := by have := hpm.small; rw [← hL.out] at this; omega
      have hELs : (EL : Int) ≤ 256 := by rw [hEL.out, hpm.eqs (by decide), ← hL.out]; exact hLs
      rw [← hL.out] at a0 hvc
      rw [← hEL.out] at a1 hec
      have hvcH := hide hvc
      have hecH := hide hec
      subst hva
      clear hvc hec a2 hpm
      obtain ⟨wo, rfl⟩ : ∃ x, x = wr := ⟨wr, rfl⟩
      have hst : Hid (∀ n, Below wo.heap.size wo (wo.drewN n)) := fun n => dN wo n
      have hEq : EL = L := by rw [hEL.out, hpmH.out.eqs (by decide), ← hL.out]
      subst hEq
      go_wp2_with fail
      go_quiet (fail)
      obtain ⟨wq, hwq⟩ : ∃ wq, Hid (wq = wo.drewN nq) := ⟨_, rfl⟩
      have hbq : Hid (Below wo.heap.size wo wq) := by rw [hwq.out]; exact dN wo nq
      rw [← hwq.out]
      have hnext : Hid (Below w0.heap.size w0 wq) := hbl.out.trans (hbq.out.mono hbl.out.size)
      have a0H := hide a0
      have a1H := hide a1
      have a0q := keep_cell hbq.out a0
      have a1q := keep_cell hbq.out a1
      have hsq : Hid (Below w0.heap.size w0 wq) := hnext
      clear a0 a1
      obtain ⟨wi, hwi⟩ : ∃ x, Hid (x = wq) := ⟨wq, rfl⟩
      have hs1 : Hid (Below wq.heap.size wq wq) := Below.refl _ _
      go_wp2_with (go_at_call 99)
      go_loopw [11] (fun i wr => ∃ q : Nat, q ≤ EL ∧ i = .int .i64 q ∧ Hid (Below wq.heap.size wq wr)) (fun i _ => EL - (intOf i).toNat)
      case atStart => exact ⟨0, Nat.zero_le _, rfl, hs1⟩
      case round =>
        obtain ⟨q, hq, rfl, hbi⟩ := hrel
        clear hs1
        have b0 := keep_cell hbi.out a0q
        have b1 := keep_cell hbi.out a1q
        clear a0q a1q
        rcases Nat.lt_or_ge q EL with hqlt | hqge
        · have hqlI : (q : Int) < (EL : Int) := by omega
          obtain ⟨r, hr, hrl, hee⟩ := hpmH.out.at_ q (by rw [← hEL.out]; exact hqlt)
          have hrH := hide hr
          have heeH := hide hee
          have hv := keep_cell hbi.out (keep_cell hbq.out (hvcH.out q hqlt))
          obtain ⟨eg, heg, he0⟩ := hecH.out q hqlt
          have hev := keep_cell hbi.out (keep_cell hbq.out he0)
          rw [hrH.out] at hv
          rw [heeH.out] at hev
          obtain ⟨fa, hfa, hfc0⟩ := hFH.out r hrl
          have hfc := keep_cell hbi.out (keep_cell hbq.out (keep_cell hbl.out (keep_cell hb0H.out hfc0)))
          obtain ⟨b, hb⟩ : ∃ b, Hid (b = fs.getD r false) := ⟨_, rfl⟩
          rw [← hb.out] at hfc hev
          subst heg
          subst hfa
          clear hr hee he0 hfc0
          have hr0 : decide ((r : Int) < 0) = false := by simp
          have hr1 : decide ((fs.length : Int) ≤ (r : Int)) = false := by simp; omega
          have hrI : (r : Int) < (fs.length : Int) := by omega
          clear hecH a1H hFH a0H
          have hme : ((4 : Nat) != 4 && (4 : Nat) != 7 && (4 : Nat) != 9 || b) = b := by simp
          have hbb : (b != b) = false := by simp
          have hev2 : wr.cell? ⟨eg, q, none⟩ = some (.bool b) := by rw [hev, hme]
          clear hev
          go_wp2_with fail
          go_quiet (fail)
          obtain ⟨w5, hw5⟩ : ∃ w5, Hid (w5 = wr.drewN nq) := ⟨_, rfl⟩
          have hb5 : Hid (Below wr.heap.size wr w5) := by rw [hw5.out]; exact dN wr nq
          rw [← hw5.out]
          have hbn : Hid (Below wq.heap.size wq w5) := hbi.out.trans (hb5.out.mono hbi.out.size)
          clear b0 b1 hv hfc hev2
          go_wp2_with fail
          exact ⟨⟨q + 1, hqlt, rfl, hbn⟩, by simp [intOf]; omega⟩
        · have hqlI : ¬ (q : Int) < (EL : Int) := by omega
          have hbj : Hid (Below w0.heap.size w0 wr) := hnext.out.trans (hbi.out.mono hnext.out.size)
          go_wp2_with fail
          exact ⟨⟨k + 1, hlt, rfl, hbj⟩, by simp [intOf]; omega⟩
    · have hlk : ¬ (k : Int) < (ps.length : Int) := by omega
      have hbw : Hid (Below w.heap.size w wr) := hb0H.out.trans (hbl.out.mono hb0H.out.size)
      have hsz := hbw.out.size
      go_wp2_with (go_at_call 8; refine (awake_any _).mono ?_; rintro e w2 ⟨rfl, hb2⟩)
      go_ret
      exact ⟨rfl, hbw.out.trans (hb2.mono hsz)⟩
set_option maxHeartbeats 4000000 in
set_option maxRecDepth 100000 in
theorem flags_7 (n8 : Nat) (hn8 : n8 < 256) (fb : Option Addr) (fcap : Nat) (fs : List Bool) (first : Bool) (w : World) (hl : fs.length ≤ 100) (hm : n8 % 10 = 7) (hF : FlagR w fb fs) (hok : ∀ p ∈ primsA 7 fs first, FlagOk 7 fs p) (hlen : (primsA 7 fs first).length ≤ 1000) :
    Calls Try.prog 7 #[.int .u8 n8, .slice fb fs.length fcap, .bool first] w fun e w' => e = .returned (.bool true) ∧ Below w.heap.size w w' := by
  have h : ¬ (100 : Int) < (fs.length : Int) := by omega
  have hmI : (n8 : Int) % 10 = 7 := by omega
  have hp := hide (prims_any 7 fb fcap fs first w (fun _ => hF))
  have he : errF 7 fs.length = 0 := by unfold errF; rw [if_neg (by omega), if_neg (by omega)]
  have hokH := hide hok
  have hFH := hide hF
  have heH := hide he
  clear hok hF he
  go_enter Try.func7, Try.ntmps7
  go_wp2_with (go_at_call 99)
  go_at_call 9
  refine hp.out.mono ?_
  rintro e w0 ⟨v, rfl, hR, hb0⟩
  rw [heH.out]
  obtain ⟨ps, hps⟩ : ∃ ps, Hid (ps = primsA 7 fs first) := ⟨_, rfl⟩
  rw [← hps.out] at hR hlen hokH
  obtain ⟨va, vc, hv⟩ := hR.form
  subst hv
  have hRH := hide hR
  have hb0H := hide hb0
  have hlenI : (ps.length : Int) ≤ 1000 := by omega
  clear hR hb0 hp
  have hs0 : Hid (Below w0.heap.size w0 w0) := Below.refl _ _
  go_wp2_with (go_at_call 99)
  go_loopw [10] (fun i wr => ∃ k : Nat, k ≤ ps.length ∧ i = .int .i64 k ∧ Hid (Below w0.heap.size w0 wr)) (fun i _ => ps.length - (intOf i).toNat)
  case atStart => exact ⟨0, Nat.zero_le _, rfl, hs0⟩
  case round =>
    obtain ⟨k, hk, rfl, hbl⟩ := hrel
    clear hs0
    rcases Nat.lt_or_ge k ps.length with hlt | hge
    · have hlk : (k : Int) < (ps.length : Int) := by omega
      obtain ⟨g, vg, vcc, ea, ec, hva, a0, a1, a2, hvc, hec⟩ := (hRH.out.below hbl.out).at hlt
      have hpm := hokH.out (ps.getD k ⟨[], [], 0⟩) (by simp [List.getD_eq_getElem?_getD, hlt])
      obtain ⟨P0, hP0⟩ : ∃ P0, Hid (P0 = ps.getD k ⟨[], [], 0⟩) := ⟨_, rfl⟩
      rw [← hP0.out] at a0 a1 hvc hec hpm
      obtain ⟨L, hL⟩ : ∃ L, Hid (L = P0.V.length) := ⟨_, rfl⟩
      obtain ⟨EL, hEL⟩ : ∃ EL, Hid (EL = P0.E.length) := ⟨_, rfl⟩
      have hpmH := hide hpm
      have hLs : (L : Int) ≤ 256 := by have := hpm.small; rw [← hL.out] at this; omega
      have hELs : (EL : Int) ≤ 256 := by rw [hEL.out, hpm.eqs (by decide), ← hL.out]; exact hLs
      rw [← hL.out] at a0 hvc
      rw [← hEL.out] at a1 hec
      have hvcH := hide hvc
      have hecH := hide hec
      subst hva
      clear hvc hec a2 hpm
      obtain ⟨wo, rfl⟩ : ∃ x, x = wr := ⟨wr, rfl⟩
      have hst : Hid (∀ n, Below wo.heap.size wo (wo.drewN n)) := fun n => dN wo n
      have hEq : EL = L := by rw [hEL.out, hpmH.out.eqs (by decide), ← hL.out]
      subst hEq
      go_wp2_with fail
      go_quiet (fail)
      obtain ⟨wq, hwq⟩ : ∃ wq, Hid (wq = wo.drewN nq) := ⟨_, rfl⟩
      have hbq : Hid (Below wo.heap.size wo wq) := by rw [hwq.out]; exact dN wo nq
      rw [← hwq.out]
      have hnext : Hid (Below w0.heap.size w0 wq) := hbl.out.trans (hbq.out.mono hbl.out.size)
      have a0H := hide a0
      have a1H := hide a1
      have a0q := keep_cell hbq.out a0
      have a1q := keep_cell hbq.out a1
      have hsq : Hid (Below w0.heap.size w0 wq) := hnext
      clear a0 a1
      obtain ⟨wi, hwi⟩ : ∃ x, Hid (x = wq) := ⟨wq, rfl⟩
      have hs1 : Hid (Below wq.heap.size wq wq) := Below.refl _ _
      go_wp2_with (go_at_call 99)
      go_loopw [11] (fun i wr => ∃ q : Nat, q ≤ EL ∧ i = .int .i64 q ∧ Hid (Below wq.heap.size wq wr)) (fun i _ => EL - (intOf i).toNat)
      case atStart => exact ⟨0, Nat.zero_le _, rfl, hs1⟩
      case round =>
        obtain ⟨q, hq, rfl, hbi⟩ := hrel
        clear hs1
        have b0 := keep_cell hbi.out a0q
        have b1 := keep_cell hbi.out a1q
        clear a0q a1q
        rcases Nat.lt_or_ge q EL with hqlt | hqge
        · have hqlI : (q : Int) < (EL : Int) := by omega
          obtain ⟨r, hr, hrl, hee⟩ := hpmH.out.at_ q (by rw [← hEL.out]; exact hqlt)
          have hrH := hide hr
          have heeH := hide hee
          have hv := keep_cell hbi.out (keep_cell hbq.out (hvcH.out q hqlt))
          obtain ⟨eg, heg, he0⟩ := hecH.out q hqlt
          have hev := keep_cell hbi.out (keep_cell hbq.out he0)
          rw [hrH.out] at hv
          rw [heeH.out] at hev
          obtain ⟨fa, hfa, hfc0⟩ := hFH.out r hrl
          have hfc := keep_cell hbi.out (keep_cell hbq.out (keep_cell hbl.out (keep_cell hb0H.out hfc0)))
          obtain ⟨b, hb⟩ : ∃ b, Hid (b = fs.getD r false) := ⟨_, rfl⟩
          rw [← hb.out] at hfc hev
          subst heg
          subst hfa
          clear hr hee he0 hfc0
          have hr0 : decide ((r : Int) < 0) = false := by simp
          have hr1 : decide ((fs.length : Int) ≤ (r : Int)) = false := by simp; omega
          have hrI : (r : Int) < (fs.length : Int) := by omega
          clear hecH a1H hFH a0H
          have hme : ((7 : Nat) != 4 && (7 : Nat) != 7 && (7 : Nat) != 9 || b) = b := by simp
          have hbb : (b != b) = false := by simp
          have hev2 : wr.cell? ⟨eg, q, none⟩ = some (.bool b) := by rw [hev, hme]
          clear hev
          go_wp2_with fail
          go_quiet (fail)
          obtain ⟨w5, hw5⟩ : ∃ w5, Hid (w5 = wr.drewN nq) := ⟨_, rfl⟩
          have hb5 : Hid (Below wr.heap.size wr w5) := by rw [hw5.out]; exact dN wr nq
          rw [← hw5.out]
          have hbn : Hid (Below wq.heap.size wq w5) := hbi.out.trans (hb5.out.mono hbi.out.size)
          clear b0 b1 hv hfc hev2
          go_wp2_with fail
          exact ⟨⟨q + 1, hqlt, rfl, hbn⟩, by simp [intOf]; omega⟩
        · have hqlI : ¬ (q : Int) < (EL : Int) := by omega
          have hbj : Hid (Below w0.heap.size w0 wr) := hnext.out.trans (hbi.out.mono hnext.out.size)
          go_wp2_with fail
          exact ⟨⟨k + 1, hlt, rfl, hbj⟩, by simp [intOf]; omega⟩
    · have hlk : ¬ (k : Int) < (ps.length : Int) := by omega
      have hbw : Hid (Below w.heap.size w wr) := hb0H.out.trans (hbl.out.mono hb0H.out.size)
      have hsz := hbw.out.size
      go_wp2_with (go_at_call 8; refine (awake_any _).mono ?_; rintro e w2 ⟨rfl, hb2⟩)
      go_ret
      exact ⟨rfl, hbw.out.trans (hb2.mono hsz)⟩
set_option maxHeartbeats 4000000 in
set_option maxRecDepth 100000 in
theorem flags_9 (n8 : Nat) (hn8 : n8 < 256) (fb : Option Addr) (fcap : Nat) (fs : List Bool) (first : Bool) (w : World) (hl : fs.length ≤ 100) (hm : n8 % 10 = 9) (hF : FlagR w fb fs) (hok : ∀ p ∈ primsA 9 fs first, FlagOk 9 fs p) (hlen : (primsA 9 fs first).length ≤ 1000) :
    Calls Try.prog 7 #[.int .u8 n8, .slice fb fs.length fcap, .bool first] w fun e w' => e = .returned (.bool true) ∧ Below w.heap.size w w' := by
  have h : ¬ (100 : Int) < (fs.length : Int) := by omega
  have hmI : (n8 : Int) % 10 = 9 := by omega
  have hp := hide (prims_any 9 fb fcap fs first w (fun _ => hF))
  have he : errF 9 fs.length = 0 := by unfold errF; rw [if_neg (by omega), if_neg (by omega)]
  have hokH := hide hok
  have hFH := hide hF
  have heH := hide he
  clear hok hF he
  go_enter Try.func7, Try.ntmps7
  go_wp2_with (go_at_call 99)
  go_at_call 9
  refine hp.out.mono ?_
  rintro e w0 ⟨v, rfl, hR, hb0⟩
  rw [heH.out]
  obtain ⟨ps, hps⟩ : ∃ ps, Hid (ps = primsA 9 fs first) := ⟨_, rfl⟩
  rw [← hps.out] at hR hlen hokH
  obtain ⟨va, vc, hv⟩ := hR.form
  subst hv
  have hRH := hide hR
  have hb0H := hide hb0
  have hlenI : (ps.length : Int) ≤ 1000 := by omega
  clear hR hb0 hp
  have hs0 : Hid (Below w0.heap.size w0 w0) := Below.refl _ _
  go_wp2_with (go_at_call 99)
  go_loopw [10] (fun i wr => ∃ k : Nat, k ≤ ps.length ∧ i = .int .i64 k ∧ Hid (Below w0.heap.size w0 wr)) (fun i _ => ps.length - (intOf i).toNat)
  case atStart => exact ⟨0, Nat.zero_le _, rfl, hs0⟩
  case round =>
    obtain ⟨k, hk, rfl, hbl⟩ := hrel
    clear hs0
    rcases Nat.lt_or_ge k ps.length with hlt | hge
    · have hlk : (k : Int) < (ps.length : Int) := by omega
      obtain ⟨g, vg, vcc, ea, ec, hva, a0, a1, a2, hvc, hec⟩ := (hRH.out.below hbl.out).at hlt
      have hpm := hokH.out (ps.getD k ⟨[], [], 0⟩) (by simp [List.getD_eq_getElem?_getD, hlt])
      obtain ⟨P0, hP0⟩ : ∃ P0, Hid (P0 = ps.getD k ⟨[], [], 0⟩) := ⟨_, rfl⟩
      rw [← hP0.out] at a0 a1 hvc hec hpm
      obtain ⟨L, hL⟩ : ∃ L, Hid (L = P0.V.length) := ⟨_, rfl⟩
      obtain ⟨EL, hEL⟩ : ∃ EL, Hid (EL = P0.E.length) := ⟨_, rfl⟩
      have hpmH := hide hpm
      have hLs : (L : Int) ≤ 256 := by have := hpm.small; rw [← hL.out] at this; omega
      have hELs : (EL : Int) ≤ 256 := by rw [hEL.out, hpm.eqs (by decide), ← hL.out]; exact hLs
      rw [← hL.out] at a0 hvc
      rw [← hEL.out] at a1 hec
      have hvcH := hide hvc
      have hecH := hide hec
      subst hva
      clear hvc hec a2 hpm
      obtain ⟨wo, rfl⟩ : ∃ x, x = wr := ⟨wr, rfl⟩
      have hst : Hid (∀ n, Below wo.heap.size wo (wo.drewN n)) := fun n => dN wo n
      have hEq : EL = L := by rw [hEL.out, hpmH.out.eqs (by decide), ← hL.out]
      subst hEq
      go_wp2_with fail
      go_quiet (fail)
      obtain ⟨wq, hwq⟩ : ∃ wq, Hid (wq = wo.drewN nq) := ⟨_, rfl⟩
      have hbq : Hid (Below wo.heap.size wo wq) := by rw [hwq.out]; exact dN wo nq
      rw [← hwq.out]
      have hnext : Hid (Below w0.heap.size w0 wq) := hbl.out.trans (hbq.out.mono hbl.out.size)
      have a0H := hide a0
      have a1H := hide a1
      have a0q := keep_cell hbq.out a0
      have a1q := keep_cell hbq.out a1
      have hsq : Hid (Below w0.heap.size w0 wq) := hnext
      clear a0 a1
      obtain ⟨wi, hwi⟩ : ∃ x, Hid (x = wq) := ⟨wq, rfl⟩
      have hs1 : Hid (Below wq.heap.size wq wq) := Below.refl _ _
      go_wp2_with (go_at_call 99)
      go_loopw [11] (fun i wr => ∃ q : Nat, q ≤ EL ∧ i = .int .i64 q ∧ Hid (Below wq.heap.size wq wr)) (fun i _ => EL - (intOf i).toNat)
      case atStart => exact ⟨0, Nat.zero_le _, rfl, hs1⟩
      case round =>
        obtain ⟨q, hq, rfl, hbi⟩ := hrel
        clear hs1
        have b0 := keep_cell hbi.out a0q
        have b1 := keep_cell hbi.out a1q
        clear a0q a1q
        rcases Nat.lt_or_ge q EL with hqlt | hqge
        · have hqlI : (q : Int) < (EL : Int) := by omega
          obtain ⟨r, hr, hrl, hee⟩ := hpmH.out.at_ q (by rw [← hEL.out]; exact hqlt)
          have hrH := hide hr
          have heeH := hide hee
          have hv := keep_cell hbi.out (keep_cell hbq.out (hvcH.out q hqlt))
          obtain ⟨eg, heg, he0⟩ := hecH.out q hqlt
          have hev := keep_cell hbi.out (keep_cell hbq.out he0)
          rw [hrH.out] at hv
          rw [heeH.out] at hev
          obtain ⟨fa, hfa, hfc0⟩ := hFH.out r hrl
          have hfc := keep_cell hbi.out (keep_cell hbq.out (keep_cell hbl.out (keep_cell hb0H.out hfc0)))
          obtain ⟨b, hb⟩ : ∃ b, Hid (b = fs.getD r false) := ⟨_, rfl⟩
          rw [← hb.out] at hfc hev
          subst heg
          subst hfa
          clear hr hee he0 hfc0
          have hr0 : decide ((r : Int) < 0) = false := by simp
          have hr1 : decide ((fs.length : Int) ≤ (r : Int)) = false := by simp; omega
          have hrI : (r : Int) < (fs.length : Int) := by omega
          clear hecH a1H hFH a0H
          have hme : ((9 : Nat) != 4 && (9 : Nat) != 7 && (9 : Nat) != 9 || b) = b := by simp
          have hbb : (b != b) = false := by simp
          have hev2 : wr.cell? ⟨eg, q, none⟩ = some (.bool b) := by rw [hev, hme]
          clear hev
          go_wp2_with fail
          go_quiet (fail)
          obtain ⟨w5, hw5⟩ : ∃ w5, Hid (w5 = wr.drewN nq) := ⟨_, rfl⟩
          have hb5 : Hid (Below wr.heap.size wr w5) := by rw [hw5.out]; exact dN wr nq
          rw [← hw5.out]
          have hbn : Hid (Below wq.heap.size wq w5) := hbi.out.trans (hb5.out.mono hbi.out.size)
          clear b0 b1 hv hfc hev2
          go_wp2_with fail
          exact ⟨⟨q + 1, hqlt, rfl, hbn⟩, by simp [intOf]; omega⟩
        · have hqlI : ¬ (q : Int) < (EL : Int) := by omega
          have hbj : Hid (Below w0.heap.size w0 wr) := hnext.out.trans (hbi.out.mono hnext.out.size)
          go_wp2_with fail
          exact ⟨⟨k + 1, hlt, rfl, hbj⟩, by simp [intOf]; omega⟩
    · have hlk : ¬ (k : Int) < (ps.length : Int) := by omega
      have hbw : Hid (Below w.heap.size w wr) := hb0H.out.trans (hbl.out.mono hb0H.out.size)
      have hsz := hbw.out.size
      go_wp2_with (go_at_call 8; refine (awake_any _).mono ?_; rintro e w2 ⟨rfl, hb2⟩)
      go_ret
      exact ⟨rfl, hbw.out.trans (hb2.mono hsz)⟩
end Go.Proofs.Ytjcomklheilfjaa.Build
