/- Layer 7: the law BuildProvokes, walked. -/
import Derived.Test.YtjcomklheilfjaaProvKit
set_option linter.unusedVariables false
set_option linter.unusedSimpArgs false
namespace Go.Proofs.Ytjcomklheilfjaa.Build
open Go.RowKit Go

set_option maxHeartbeats 4000000 in
set_option maxRecDepth 100000 in
theorem provokes_short (n8 : Nat) (hn8 : n8 < 256) (fb : Option Addr) (fcap : Nat) (fs : List Bool) (w : World) (hl : fs.length ≤ 100) (hF : FlagR w fb fs) (hok : ProvOk (primsA ((n8 % 10 : Nat) : Int) fs true) (primsA ((n8 % 10 : Nat) : Int) fs false)) :
    Calls Try.prog 5 #[.int .u8 n8, .slice fb fs.length fcap] w fun e w' => e = .returned (.bool true) ∧ Below w.heap.size w w' := by
  have h : ¬ (100 : Int) < (fs.length : Int) := by omega
  obtain ⟨m, hm⟩ : ∃ m, Hid (m = n8 % 10) := ⟨_, rfl⟩
  have hm10 : m < 10 := by have := hm.out; omega
  rw [← hm.out] at hok
  have hmI : (n8 : Int) % 10 = (m : Int) := by have := hm.out; omega
  have hmI2 : (m : Int) < 10 := by omega
  have hp1 := hide (prims_any m fb fcap fs true w (fun _ => hF))
  have he : errF m fs.length = 0 := by unfold errF; rw [if_neg (by omega), if_neg (by omega)]
  have hokH := hide hok
  have hFH := hide hF
  have heH := hide he
  clear hok hF he
  go_enter Try.func5, Try.ntmps5
  go_wp2_with (go_at_call 99)
  go_at_call 9
  refine hp1.out.mono ?_
  rintro e w1 ⟨v, rfl, hR, hb1⟩
  rw [heH.out]
  have hb1H := hide hb1
  have hp2 := hide (prims_any m fb fcap fs false w1 (fun _ j hj => by
    obtain ⟨fa, e, h1⟩ := hFH.out j hj
    exact ⟨fa, e, keep_cell hb1 h1⟩))
  obtain ⟨A, hA⟩ : ∃ A, Hid (A = primsA m fs true) := ⟨_, rfl⟩
  obtain ⟨B, hB⟩ : ∃ B, Hid (B = primsA m fs false) := ⟨_, rfl⟩
  rw [← hA.out] at hR hokH
  rw [← hB.out] at hokH
  obtain ⟨va, vc, hv⟩ := hR.form
  subst hv
  have hRA := hide hR
  clear hR hb1 hp1
  go_wp2_with (go_at_call 99)
  go_at_call 9
  refine hp2.out.mono ?_
  rintro e w2 ⟨v2, rfl, hR, hb2⟩
  rw [heH.out]
  rw [← hB.out] at hR
  obtain ⟨vb, vd, hv⟩ := hR.form
  subst hv
  have hRB := hide hR
  have hRA2 : Hid (PrimsR w2 (.slice va A.length vc) A) := hRA.out.below hb2
  have hbw2 : Hid (Below w.heap.size w w2) := hb1H.out.trans (hb2.mono hb1H.out.size)
  have hBl : B.length = A.length := hokH.out.len.symm
  rw [hBl] at hRB
  have hAs : (A.length : Int) ≤ 256 := by have := hokH.out.small; omega
  rw [hBl]
  clear hR hb2 hp2 hRA hBl
  have hz32 := zero32
  obtain ⟨arr, harr⟩ : ∃ arr, Hid (arr = z32) := ⟨_, rfl⟩
  rw [← harr.out] at hz32
  go_wp2_with (go_at_call 99)
  have hP0 : Hid (Blk ((w2.alloc (.cells arr 32)).alloc (.cells arr 32)) w2.heap.size 32 (cntRow (pnat A) 0)) := (Blk.new w2 32 _ (by rw [harr.out, cntRow_zero]; rfl)).alloc _
  have hQ0 : Hid (Blk ((w2.alloc (.cells arr 32)).alloc (.cells arr 32)) (w2.heap.size + 1) 32 (cntRow (pnat B) 0)) := by
    have h := Blk.new (w2.alloc (.cells arr 32)) 32 (cntRow (pnat B) 0) (arr := arr) (by rw [harr.out, cntRow_zero]; rfl)
    rw [show (w2.alloc (.cells arr 32)).heap.size = w2.heap.size + 1 by simp] at h
    exact h
  have hB0 : Hid (Below w2.heap.size w2 ((w2.alloc (.cells arr 32)).alloc (.cells arr 32))) := ((Below.refl _ _).alloc (Nat.le_refl _) _).alloc (by simp) _
  go_loopw [12] (fun i wr => ∃ k : Nat, k ≤ A.length ∧ i = .int .i64 k ∧ Hid (Blk wr w2.heap.size 32 (cntRow (pnat A) k)) ∧ Hid (Blk wr (w2.heap.size + 1) 32 (cntRow (pnat B) k)) ∧ Hid (Below w2.heap.size w2 wr)) (fun i _ => A.length - (intOf i).toNat)
  case atStart => exact ⟨0, Nat.zero_le _, rfl, hP0, hQ0, hB0⟩
  case round =>
    obtain ⟨k, hk, rfl, hP, hQ, hbl⟩ := hrel
    clear hP0 hQ0 hB0
    rcases Nat.lt_or_ge k A.length with hlt | hge
    · have hlk : (k : Int) < (A.length : Int) := by omega
      obtain ⟨g, vg, vcc, ea, ec, hva, a0, a1, a2, hvc, hec⟩ := (hRA2.out.below hbl.out).at hlt
      obtain ⟨g', vg', vcc', ea', ec', hvb, b0, b1, b2, hvc', hec'⟩ := (show PrimsR w2 (.slice vb B.length vd) B by rw [← hokH.out.len]; exact hRB.out).at (i := k) (by rw [← hokH.out.len]; exact hlt)
      have hgl : g' < w2.heap.size := lt_of_cell b2
      have b0 := keep_cell hbl.out b0
      have b2 := keep_cell hbl.out b2
      have hvc' := fun q hq => keep_cell hbl.out (hvc' q hq)
      subst hva
      subst hvb
      rw [hokH.out.vs k hlt] at b0 hvc'
      obtain ⟨V, hV⟩ : ∃ V, Hid (V = (A.getD k ⟨[], [], 0⟩).V) := ⟨_, rfl⟩
      obtain ⟨L, hL⟩ : ∃ L, Hid (L = V.length) := ⟨_, rfl⟩
      obtain ⟨pA, hpA⟩ : ∃ pA, Hid (pA = pnat A k) := ⟨_, rfl⟩
      obtain ⟨pB, hpB⟩ : ∃ pB, Hid (pB = pnat B k) := ⟨_, rfl⟩
      obtain ⟨x1, x2, x3⟩ := hokH.out.pa k hlt
      obtain ⟨y1, y2, y3⟩ := hokH.out.pb k hlt
      have hLs : (L : Int) ≤ 256 := by have := hokH.out.vsmall k hlt; rw [hL.out, hV.out]; omega
      rw [x1, ← hpA.out] at a2
      rw [y1, ← hpB.out] at b2
      rw [← hV.out, ← hL.out] at a0 b0 hvc hvc' x3 y3
      rw [← hpA.out] at x2 x3
      rw [← hpB.out] at y2 y3
      have hvH := hide hvc
      have hvH' := hide hvc'
      have x3H := hide x3
      have y3H := hide y3
      clear a1 b1 hvc hvc' hec hec' x1 y1 x3 y3
      obtain ⟨wo, rfl⟩ : ∃ x, x = wr := ⟨wr, rfl⟩
      have hst : Hid (Below wo.heap.size wo wo) := Below.refl _ _
      go_wp2_with (go_at_call 99)
      go_loopw [13, 14, 15] (fun b1 b2 i wr => ∃ j : Nat, j ≤ L ∧ b1 = .bool (hasF V pA j) ∧ b2 = .bool (hasF V pB j) ∧ i = .int .i64 j ∧ Hid (Below wo.heap.size wo wr)) (fun _ _ i _ => L - (intOf i).toNat)
      case atStart => exact ⟨0, Nat.zero_le _, rfl, rfl, rfl, hst⟩
      case round =>
        obtain ⟨j, hj, rfl, rfl, rfl, hbi⟩ := hrel
        clear hst
        have c0 := keep_cell hbi.out a0
        have d0 := keep_cell hbi.out b0
        have c2 := keep_cell hbi.out a2
        have d2 := keep_cell hbi.out b2
        clear a0 b0 a2 b2
        rcases Nat.lt_or_ge j L with hjlt | hjge
        · have hjI : (j : Int) < (L : Int) := by omega
          have hjD : decide ((j : Int) < (L : Int)) = true := by simp; omega
          have hv := keep_cell hbi.out (hvH.out j hjlt)
          have hv' := keep_cell hbi.out (hvH'.out j hjlt)
          obtain ⟨x, hx⟩ : ∃ x, Hid (x = V.getD j 0) := ⟨_, rfl⟩
          rw [← hx.out] at hv hv'
          have hne : decide (x = x) = true := by simp
          go_wp2_with fail
          go_quiet (fail)
          obtain ⟨w3, hw3⟩ : ∃ w3, Hid (w3 = wr.drewN nq) := ⟨_, rfl⟩
          have hb3 : Hid (Below wr.heap.size wr w3) := by rw [hw3.out]; exact dN wr nq
          rw [← hw3.out]
          have hb3o : Hid (Below wo.heap.size wo w3) := hbi.out.trans (hb3.out.mono hbi.out.size)
          have c0 := keep_cell hb3.out c0
          have d0 := keep_cell hb3.out d0
          have c2 := keep_cell hb3.out c2
          have d2 := keep_cell hb3.out d2
          have hv := keep_cell hb3.out hv
          have hv' := keep_cell hb3.out hv'
          go_wp2_with fail
          have eA : Hid (hasF V pA (j + 1) = (hasF V pA j || (x == (pA : Int)))) := by rw [hx.out]; rfl
          have eB : Hid (hasF V pB (j + 1) = (hasF V pB j || (x == (pB : Int)))) := by rw [hx.out]; rfl
          rcases hbA : hasF V pA j with _ | _
          · go_quiet (fail)
            obtain ⟨w4, hw4⟩ : ∃ w4, Hid (w4 = w3.drewN nq) := ⟨_, rfl⟩
            have hb4 : Hid (Below w3.heap.size w3 w4) := by rw [hw4.out]; exact dN w3 nq
            rw [← hw4.out]
            have hb4o : Hid (Below wo.heap.size wo w4) := hb3o.out.trans (hb4.out.mono hb3o.out.size)
            have d0 := keep_cell hb4.out d0
            have d2 := keep_cell hb4.out d2
            have hv' := keep_cell hb4.out hv'
            clear c0 c2 hv
            go_wp2_with fail
            rcases hbB : hasF V pB j with _ | _
            · go_quiet (fail)
              obtain ⟨w5, hw5⟩ : ∃ w5, Hid (w5 = w4.drewN nq) := ⟨_, rfl⟩
              have hb5o : Hid (Below wo.heap.size wo w5) := by rw [hw5.out]; exact hb4o.out.trans ((dN w4 nq).mono hb4o.out.size)
              rw [← hw5.out]
              clear d0 d2 hv'
              go_wp2_with fail
              exact ⟨⟨j + 1, hjlt, by rw [eA.out, hbA]; simp, by rw [eB.out, hbB]; simp, rfl, hb5o⟩, by simp [intOf]; omega⟩
            · go_quiet (fail)
              obtain ⟨w5, hw5⟩ : ∃ w5, Hid (w5 = w4.drewN nq) := ⟨_, rfl⟩
              have hb5o : Hid (Below wo.heap.size wo w5) := by rw [hw5.out]; exact hb4o.out.trans ((dN w4 nq).mono hb4o.out.size)
              rw [← hw5.out]
              clear d0 d2 hv'
              go_wp2_with fail
              exact ⟨⟨j + 1, hjlt, by rw [eA.out, hbA]; simp, by rw [eB.out, hbB]; simp, rfl, hb5o⟩, by simp [intOf]; omega⟩
          · go_quiet (fail)
            obtain ⟨w4, hw4⟩ : ∃ w4, Hid (w4 = w3.drewN nq) := ⟨_, rfl⟩
            have hb4 : Hid (Below w3.heap.size w3 w4) := by rw [hw4.out]; exact dN w3 nq
            rw [← hw4.out]
            have hb4o : Hid (Below wo.heap.size wo w4) := hb3o.out.trans (hb4.out.mono hb3o.out.size)
            have d0 := keep_cell hb4.out d0
            have d2 := keep_cell hb4.out d2
            have hv' := keep_cell hb4.out hv'
            clear c0 c2 hv
            go_wp2_with fail
            rcases hbB : hasF V pB j with _ | _
            · go_quiet (fail)
              obtain ⟨w5, hw5⟩ : ∃ w5, Hid (w5 = w4.drewN nq) := ⟨_, rfl⟩
              have hb5o : Hid (Below wo.heap.size wo w5) := by rw [hw5.out]; exact hb4o.out.trans ((dN w4 nq).mono hb4o.out.size)
              rw [← hw5.out]
              clear d0 d2 hv'
              go_wp2_with fail
              exact ⟨⟨j + 1, hjlt, by rw [eA.out, hbA]; simp, by rw [eB.out, hbB]; simp, rfl, hb5o⟩, by simp [intOf]; omega⟩
            · go_quiet (fail)
              obtain ⟨w5, hw5⟩ : ∃ w5, Hid (w5 = w4.drewN nq) := ⟨_, rfl⟩
              have hb5o : Hid (Below wo.heap.size wo w5) := by rw [hw5.out]; exact hb4o.out.trans ((dN w4 nq).mono hb4o.out.size)
              rw [← hw5.out]
              clear d0 d2 hv'
              go_wp2_with fail
              exact ⟨⟨j + 1, hjlt, by rw [eA.out, hbA]; simp, by rw [eB.out, hbB]; simp, rfl, hb5o⟩, by simp [intOf]; omega⟩
        · have hjI : ¬ (j : Int) < (L : Int) := by omega
          have hjD : decide ((j : Int) < (L : Int)) = false := by simp; omega
          have hjL : j = L := by omega
          have e3 : hasF V pA j = true := by rw [hjL]; exact x3H.out
          have e4 : hasF V pB j = true := by rw [hjL]; exact y3H.out
          rw [e3, e4]
          have hPr := hP.out.keep hbi.out hP.out.lt
          have hQr := hQ.out.keep hbi.out hQ.out.lt
          have hpc : wr.cell? ⟨w2.heap.size, pA, none⟩ = some (.int .i64 (cnt (pnat A) pA k : Nat)) := by rw [hPr.cell]; exact cntRow_get _ _ _ x2
          have hpz : wr.frozen? ⟨w2.heap.size, pA, none⟩ = false := hPr.frozen _
          have hqc : ∀ u, (wr.setCell ⟨w2.heap.size, pA, none⟩ u).cell? ⟨w2.heap.size + 1, pB, none⟩ = some (.int .i64 (cnt (pnat B) pB k : Nat)) := fun u => by
            rw [(hQr.other (a := ⟨w2.heap.size, pA, none⟩) (by simp) u).cell]; exact cntRow_get _ _ _ y2
          have hqz : ∀ u, (wr.setCell ⟨w2.heap.size, pA, none⟩ u).frozen? ⟨w2.heap.size + 1, pB, none⟩ = false := fun u => (hQr.other (a := ⟨w2.heap.size, pA, none⟩) (by simp) u).frozen _
          have d2' : ∀ u, (wr.setCell ⟨w2.heap.size, pA, none⟩ u).cell? ⟨g', k * 3 + 2, none⟩ = some (.int .i64 (pB : Int)) := fun u => by rw [other_cell (by simp; omega)]; exact d2
          have hPH := hide hPr
          have hQH := hide hQr
          obtain ⟨cA, hcA⟩ : ∃ cA, Hid (cA = cnt (pnat A) pA k) := ⟨_, rfl⟩
          obtain ⟨cB, hcB⟩ : ∃ cB, Hid (cB = cnt (pnat B) pB k) := ⟨_, rfl⟩
          rw [← hcA.out] at hpc
          rw [← hcB.out] at hqc
          have hcAs : (cA : Int) ≤ 256 := by have := cnt_le (pnat A) pA k; rw [hcA.out]; omega
          have hcBs : (cB : Int) ≤ 256 := by have := cnt_le (pnat B) pB k; rw [hcB.out]; omega
          have pA1 : (pA : Int) < 256 := by omega
          have pB1 : (pB : Int) < 256 := by omega
          have pA0 : decide ((pA : Int) < 0) = false := by simp
          have pB0 : decide ((pB : Int) < 0) = false := by simp
          have pA5 : decide ((255 : Int) < (pA : Int)) = false := by simp; omega
          have pB5 : decide ((255 : Int) < (pB : Int)) = false := by simp; omega
          clear hPr hQr
          go_wp2_with fail
          refine ⟨⟨k + 1, hlt, rfl, ?_, ?_, ?_⟩, by simp [intOf]; omega⟩
          · have h1 := hPH.out.set pA (.int .i64 ((cA : Int) + 1))
            rw [hcA.out, cntRow_set _ _ _ hpA.out.symm x2] at h1
            rw [hcA.out]
            exact h1.other (by simp) _
          · have h1 := (hQH.out.other (a := ⟨w2.heap.size, pA, none⟩) (by simp) (.int .i64 ((cA : Int) + 1))).set pB (.int .i64 ((cB : Int) + 1))
            rw [hcB.out, cntRow_set _ _ _ hpB.out.symm y2] at h1
            rw [hcB.out]
            exact h1
          · exact ((hbl.out.trans (hbi.out.mono hbl.out.size)).setCell (p := ⟨w2.heap.size, pA, none⟩) (Nat.le_refl _) _).setCell (p := ⟨w2.heap.size + 1, pB, none⟩) (by simp) _
    · have hlk : ¬ (k : Int) < (A.length : Int) := by omega
      have hkl : k = A.length := by omega
      have hst : Hid (Below wr.heap.size wr wr) := Below.refl _ _
      obtain ⟨wo, rfl⟩ : ∃ x, x = wr := ⟨wr, rfl⟩
      have hcell : Hid (∀ (x : Nat), x < 256 → wo.cell? ⟨w2.heap.size, x, none⟩ = some (.int .i64 (cnt (pnat A) x k : Nat)) ∧ wo.cell? ⟨w2.heap.size + 1, x, none⟩ = some (.int .i64 (cnt (pnat B) x k : Nat))) := fun x hx => ⟨by rw [hP.out.cell]; exact cntRow_get _ _ _ hx, by rw [hQ.out.cell]; exact cntRow_get _ _ _ hx⟩
      go_wp2_with (go_at_call 99)
      go_loopw [16] (fun i wr => ∃ x : Nat, x ≤ 256 ∧ i = .int .i64 x ∧ Hid (Below wo.heap.size wo wr)) (fun i _ => 256 - (intOf i).toNat)
      case atStart => exact ⟨0, Nat.zero_le _, rfl, hst⟩
      case round =>
        obtain ⟨x, hx, rfl, hbi⟩ := hrel
        clear hst
        rcases Nat.lt_or_ge x 256 with hxl | hxg
        · have hxI : (x : Int) < 256 := by omega
          obtain ⟨q1, q2⟩ := hcell.out x hxl
          have q1 := keep_cell hbi.out q1
          have q2 := keep_cell hbi.out q2
          have s1 : cnt (pnat A) x k ≤ 1 := cnt_one _ _ _ (fun i j hi hj => hokH.out.ia i j (by omega) (by omega))
          have s2 : cnt (pnat B) x k ≤ 1 := cnt_one _ _ _ (fun i j hi hj => hokH.out.ib i j (by omega) (by omega))
          obtain ⟨cA, hcA⟩ : ∃ cA, Hid (cA = cnt (pnat A) x k) := ⟨_, rfl⟩
          obtain ⟨cB, hcB⟩ : ∃ cB, Hid (cB = cnt (pnat B) x k) := ⟨_, rfl⟩
          rw [← hcA.out] at q1 s1
          rw [← hcB.out] at q2 s2
          have s1I : ¬ (1 : Int) < (cA : Int) := by omega
          have s2I : ¬ (1 : Int) < (cB : Int) := by omega
          go_wp2_with fail
          exact ⟨⟨x + 1, hxl, rfl, hbi⟩, by simp [intOf]; omega⟩
        · have hxI : ¬ (x : Int) < 256 := by omega
          have hbw : Hid (Below w.heap.size w wr) := (hbw2.out.trans (hbl.out.mono hbw2.out.size)).trans (hbi.out.mono (by have h1 := hbw2.out.size; have h2 := hbl.out.size; omega))
          have hsz := hbw.out.size
          go_wp2_with (go_at_call 8; refine (awake_any _).mono ?_; rintro e w9 ⟨rfl, hb9⟩)
          go_ret
          exact ⟨rfl, hbw.out.trans (hb9.mono hsz)⟩
end Go.Proofs.Ytjcomklheilfjaa.Build
