/- Layer 7: the law BuildTurns, walked. -/
import Derived.Test.YtjcomklheilfjaaTurnKit
set_option linter.unusedVariables false
set_option linter.unusedSimpArgs false
namespace Go.Proofs.Ytjcomklheilfjaa.Build
open Go.RowKit Go

set_option maxHeartbeats 8000000 in
set_option maxRecDepth 100000 in
theorem turns_5 (n : Nat) (hn8 : n < 256) (w : World) (hok : TurnOk (primsA 5 (List.replicate n false) false)) :
    Calls Try.prog 6 #[.int .u8 n, .bool false] w fun e w' => e = .returned (.bool true) ∧ Below w.heap.size w w' := by
  have he : errF 5 n = 0 := by unfold errF; rw [if_neg (by omega), if_neg (by omega)]
  have hmk := make_bools n (by omega)
  obtain ⟨arr, harr⟩ : ∃ arr, Hid (arr = (List.replicate n (Value.bool false)).toArray) := ⟨_, rfl⟩
  rw [← harr.out] at hmk
  obtain ⟨A, hA⟩ : ∃ A, Hid (A = primsA 5 (List.replicate n false) false) := ⟨_, rfl⟩
  rw [← hA.out] at hok
  have hp : Hid (Calls Try.prog 9 #[.int .i64 5, .slice (some ⟨w.heap.size, 0, none⟩) n n, .bool false] (w.alloc (.cells arr 4)) fun e w' => ∃ va vc, e = .returned (.tuple #[.slice va A.length vc, .int .i64 0]) ∧ PrimsR w' (.slice va A.length vc) A ∧ Below (w.alloc (.cells arr 4)).heap.size (w.alloc (.cells arr 4)) w') := by
    have h := prims_any 5 (some ⟨w.heap.size, 0, none⟩) n (List.replicate n false) false (w.alloc (.cells arr 4)) (fun _ => by rw [harr.out]; exact new_flags n)
    rw [List.length_replicate] at h
    refine h.mono ?_
    rintro e w' ⟨v, rfl, hR, hb⟩
    rw [← hA.out] at hR
    obtain ⟨va, vc, rfl⟩ := hR.form
    exact ⟨va, vc, by rw [List.length_replicate, he], hR, hb⟩
  have hn0 : (n : Int) < 256 := by omega
  have hokH := hide hok
  have hAs : (A.length : Int) ≤ 256 := by have := hok.small; omega
  clear hok he
  have hB0 : Hid (Below w.heap.size w (w.alloc (.cells arr 4))) := (Below.refl _ _).alloc (Nat.le_refl _) _
  go_enter Try.func6, Try.ntmps6
  go_wp2_with (go_at_call 99)
  go_at_call 9
  refine hp.out.mono ?_
  rintro e w0 ⟨va, vc, rfl, hR, hb0⟩
  have hRH := hide hR
  have hbw0 : Hid (Below w.heap.size w w0) := hB0.out.trans (hb0.mono hB0.out.size)
  have hst : Hid (Below w0.heap.size w0 w0) := Below.refl _ _
  clear hR hb0 hp hB0
  go_wp2_with (go_at_call 99)
  go_loopw [8] (fun i wr => ∃ t : Nat, (t = 0 ∨ t < A.length) ∧ i = .int .i64 (t + 1 : Nat) ∧ Hid (Below w0.heap.size w0 wr)) (fun i _ => A.length - (intOf i).toNat)
  case atStart => exact ⟨0, .inl rfl, rfl, hst⟩
  case round =>
    obtain ⟨t, ht, rfl, hbl⟩ := hrel
    clear hst
    obtain ⟨i, hi⟩ : ∃ i, Hid (i = t + 1) := ⟨_, rfl⟩
    rw [← hi.out]
    have hti : (i : Int) - 1 = (t : Int) := by have := hi.out; omega
    rcases Nat.lt_or_ge i A.length with hlt | hge
    · have hlk : (i : Int) < (A.length : Int) := by omega
      have htl : t < A.length := by have := hi.out; omega
      have htlI : (t : Int) < (A.length : Int) := by omega
      obtain ⟨g, vg, vcc, ea, ec, hva, a0, a1, a2, hvc, hec⟩ := (hRH.out.below hbl.out).at hlt
      obtain ⟨g', vh, vcd, ea', ec', hva', b0, b1, b2, hvd, hec'⟩ := (hRH.out.below hbl.out).at htl
      subst hva
      obtain rfl : g = g' := by simpa using hva'
      obtain ⟨X, hX⟩ : ∃ X, Hid (X = (A.getD i ⟨[], [], 0⟩).V) := ⟨_, rfl⟩
      obtain ⟨Y, hY⟩ : ∃ Y, Hid (Y = (A.getD t ⟨[], [], 0⟩).V) := ⟨_, rfl⟩
      have h1 : Hid (totF X Y 3 = 1) := by
        have := hokH.out.one t (by have := hi.out; omega)
        rw [← hi.out] at this
        rw [hX.out, hY.out]; exact this
      rw [← hX.out] at a0 hvc
      rw [← hY.out] at b0 hvd
      have hX3 : X.length = 3 := by rw [hX.out]; exact hokH.out.three i hlt
      have hY3 : Y.length = 3 := by rw [hY.out]; exact hokH.out.three t htl
      rw [hX3] at a0 hvc
      rw [hY3] at b0 hvd
      have hvcH := hide hvc
      have hvdH := hide hvd
      clear a1 a2 b1 b2 hvc hvd hec hec' hva' hX3 hY3
      obtain ⟨wo, rfl⟩ : ∃ x, x = wr := ⟨wr, rfl⟩
      have hst : Hid (Below wo.heap.size wo wo) := Below.refl _ _
      go_wp2_with (go_at_call 99)
      go_loopw [9, 10] (fun ag i wr => ∃ k : Nat, k ≤ 3 ∧ ag = .int .i64 (totF X Y k : Nat) ∧ i = .int .i64 k ∧ Hid (Below wo.heap.size wo wr)) (fun _ i _ => 3 - (intOf i).toNat)
      case atStart => exact ⟨0, Nat.zero_le _, rfl, rfl, hst⟩
      case round =>
        obtain ⟨k, hk, rfl, rfl, hbi⟩ := hrel
        clear hst
        rcases Nat.lt_or_ge k 3 with hkl | hkg
        · have hkI : (k : Int) < 3 := by omega
          obtain ⟨wp, rfl⟩ : ∃ x, x = wr := ⟨wr, rfl⟩
          have hsp : Hid (Below wp.heap.size wp wp) := Below.refl _ _
          obtain ⟨G, hG⟩ : ∃ G, Hid (G = totF X Y k) := ⟨_, rfl⟩
          rw [← hG.out]
          go_wp2_with (go_at_call 99)
          go_loopw [9, 11] (fun ag i wr => ∃ j : Nat, j ≤ 3 ∧ ag = .int .i64 (totF X Y k + rowF X Y k j : Nat) ∧ i = .int .i64 j ∧ Hid (Below wp.heap.size wp wr)) (fun _ i _ => 3 - (intOf i).toNat)
          case atStart => exact ⟨0, Nat.zero_le _, by rw [hG.out]; rfl, rfl, hsp⟩
          case round =>
            obtain ⟨j, hj, rfl, rfl, hbj⟩ := hrel
            clear hsp
            rcases Nat.lt_or_ge j 3 with hjl | hjg
            · have hjI : (j : Int) < 3 := by omega
              obtain ⟨k1, hk1⟩ : ∃ k1, Hid (k1 = (k + 1) % 3) := ⟨_, rfl⟩
              obtain ⟨j1, hj1⟩ : ∃ j1, Hid (j1 = (j + 1) % 3) := ⟨_, rfl⟩
              have hk1I : ((k : Int) + 1) % 3 = (k1 : Int) := by have := hk1.out; omega
              have hj1I : ((j : Int) + 1) % 3 = (j1 : Int) := by have := hj1.out; omega
              have hk1J : ((k : Int) + 1).tmod 3 = (k1 : Int) := by rw [Int.tmod_eq_emod_of_nonneg (by omega)]; exact hk1I
              have hj1J : ((j : Int) + 1).tmod 3 = (j1 : Int) := by rw [Int.tmod_eq_emod_of_nonneg (by omega)]; exact hj1I
              have hk1l : k1 < 3 := by have := hk1.out; omega
              have hj1l : j1 < 3 := by have := hj1.out; omega
              have hk1L : (k1 : Int) < 3 := by omega
              have hj1L : (j1 : Int) < 3 := by omega
              have q0 := keep_cell hbj.out (keep_cell hbi.out a0)
              have q1 := keep_cell hbj.out (keep_cell hbi.out b0)
              have hx0 := keep_cell hbj.out (keep_cell hbi.out (hvcH.out k hkl))
              have hx1 := keep_cell hbj.out (keep_cell hbi.out (hvcH.out k1 hk1l))
              have hy0 := keep_cell hbj.out (keep_cell hbi.out (hvdH.out j hjl))
              have hy1 := keep_cell hbj.out (keep_cell hbi.out (hvdH.out j1 hj1l))
              obtain ⟨x0, ex0⟩ : ∃ x, Hid (x = X.getD k 0) := ⟨_, rfl⟩
              obtain ⟨x1, ex1⟩ : ∃ x, Hid (x = X.getD k1 0) := ⟨_, rfl⟩
              obtain ⟨y0, ey0⟩ : ∃ x, Hid (x = Y.getD j 0) := ⟨_, rfl⟩
              obtain ⟨y1, ey1⟩ : ∃ x, Hid (x = Y.getD j1 0) := ⟨_, rfl⟩
              rw [← ex0.out] at hx0
              rw [← ex1.out] at hx1
              rw [← ey0.out] at hy0
              rw [← ey1.out] at hy1
              obtain ⟨S, hS⟩ : ∃ S, Hid (S = totF X Y k + rowF X Y k j) := ⟨_, rfl⟩
              rw [← hS.out]
              have hSs : (S : Int) ≤ 20 := by
                have := totF_le X Y k
                have := rowF_le X Y k j
                rw [hS.out]; omega
              have hag : Hid (agF X Y k j = ((x0 == y1) && (x1 == y0))) := by
                unfold Hid agF
                rw [ex0.out, ex1.out, ey0.out, ey1.out, hk1.out, hj1.out]
              clear a0 b0
              by_cases e1 : x0 = y1
              · subst e1
                by_cases e2 : x1 = y0
                · subst e2
                  have hnx : Hid (rowF X Y k (j + 1) = rowF X Y k j + 1) := by
                    show rowF X Y k j + _ = _
                    rw [hag.out]; simp
                  go_wp2_with fail
                  go_quiet (fail)
                  obtain ⟨w5, hw5⟩ : ∃ w5, Hid (w5 = wr.drewN nq) := ⟨_, rfl⟩
                  have hb5 : Hid (Below wp.heap.size wp w5) := by rw [hw5.out]; exact hbj.out.trans ((dN wr nq).mono hbj.out.size)
                  rw [← hw5.out]
                  clear q0 q1 hx0 hx1 hy0 hy1
                  go_wp2_with fail
                  exact ⟨⟨j + 1, hjl, by rw [hnx.out, ← Nat.add_assoc, ← hS.out]; rfl, rfl, hb5⟩, by simp [intOf]; omega⟩
                · have d2 : decide (x1 = y0) = false := by simp [e2]
                  have d2' : (x1 == y0) = false := by simp [e2]
                  have hnx : Hid (rowF X Y k (j + 1) = rowF X Y k j) := by
                    show rowF X Y k j + _ = _
                    rw [hag.out]; simp [e2]
                  have he' := hide e2
                  clear e2
                  go_wp2_with fail
                  go_quiet (fail)
                  obtain ⟨w5, hw5⟩ : ∃ w5, Hid (w5 = wr.drewN nq) := ⟨_, rfl⟩
                  have hb5 : Hid (Below wp.heap.size wp w5) := by rw [hw5.out]; exact hbj.out.trans ((dN wr nq).mono hbj.out.size)
                  rw [← hw5.out]
                  clear q0 q1 hx0 hx1 hy0 hy1
                  go_wp2_with fail
                  exact ⟨⟨j + 1, hjl, by rw [hnx.out, ← hS.out], rfl, hb5⟩, by simp [intOf]; omega⟩
              · have d1 : decide (x0 = y1) = false := by simp [e1]
                have d1' : (x0 == y1) = false := by simp [e1]
                have hnx : Hid (rowF X Y k (j + 1) = rowF X Y k j) := by
                  show rowF X Y k j + _ = _
                  rw [hag.out]; simp [e1]
                have he' := hide e1
                clear e1
                go_wp2_with fail
                go_quiet (fail)
                obtain ⟨w5, hw5⟩ : ∃ w5, Hid (w5 = wr.drewN nq) := ⟨_, rfl⟩
                have hb5 : Hid (Below wp.heap.size wp w5) := by rw [hw5.out]; exact hbj.out.trans ((dN wr nq).mono hbj.out.size)
                rw [← hw5.out]
                clear q0 q1 hx0 hx1 hy0 hy1
                go_wp2_with fail
                exact ⟨⟨j + 1, hjl, by rw [hnx.out, ← hS.out], rfl, hb5⟩, by simp [intOf]; omega⟩
            · have hjI : ¬ (j : Int) < 3 := by omega
              have hj3 : j = 3 := by omega
              subst hj3
              have hb2 : Hid (Below wo.heap.size wo wr) := hbi.out.trans (hbj.out.mono hbi.out.size)
              go_wp2_with fail
              exact ⟨⟨k + 1, hkl, rfl, rfl, hb2⟩, by simp [intOf]; omega⟩
        · have hkI : ¬ (k : Int) < 3 := by omega
          have hk3 : k = 3 := by omega
          subst hk3
          rw [h1.out]
          have hb2 : Hid (Below w0.heap.size w0 wr) := hbl.out.trans (hbi.out.mono hbl.out.size)
          go_wp2_with fail
          exact ⟨⟨i, .inr hlt, rfl, hb2⟩, by simp [intOf]; omega⟩
    · have hlk : ¬ (i : Int) < (A.length : Int) := by omega
      have hbw : Hid (Below w.heap.size w wr) := hbw0.out.trans (hbl.out.mono hbw0.out.size)
      have hsz := hbw.out.size
      go_wp2_with (go_at_call 8; refine (awake_any _).mono ?_; rintro e w9 ⟨rfl, hb9⟩)
      go_ret
      exact ⟨rfl, hbw.out.trans (hb9.mono hsz)⟩
set_option maxHeartbeats 8000000 in
set_option maxRecDepth 100000 in
theorem turns_6 (n : Nat) (hn8 : n < 256) (w : World) (hok : TurnOk (primsA 6 (List.replicate n false) false)) :
    Calls Try.prog 6 #[.int .u8 n, .bool true] w fun e w' => e = .returned (.bool true) ∧ Below w.heap.size w w' := by
  have he : errF 6 n = 0 := by unfold errF; rw [if_neg (by omega), if_neg (by omega)]
  have hmk := make_bools n (by omega)
  obtain ⟨arr, harr⟩ : ∃ arr, Hid (arr = (List.replicate n (Value.bool false)).toArray) := ⟨_, rfl⟩
  rw [← harr.out] at hmk
  obtain ⟨A, hA⟩ : ∃ A, Hid (A = primsA 6 (List.replicate n false) false) := ⟨_, rfl⟩
  rw [← hA.out] at hok
  have hp : Hid (Calls Try.prog 9 #[.int .i64 6, .slice (some ⟨w.heap.size, 0, none⟩) n n, .bool false] (w.alloc (.cells arr 4)) fun e w' => ∃ va vc, e = .returned (.tuple #[.slice va A.length vc, .int .i64 0]) ∧ PrimsR w' (.slice va A.length vc) A ∧ Below (w.alloc (.cells arr 4)).heap.size (w.alloc (.cells arr 4)) w') := by
    have h := prims_any 6 (some ⟨w.heap.size, 0, none⟩) n (List.replicate n false) false (w.alloc (.cells arr 4)) (fun _ => by rw [harr.out]; exact new_flags n)
    rw [List.length_replicate] at h
    refine h.mono ?_
    rintro e w' ⟨v, rfl, hR, hb⟩
    rw [← hA.out] at hR
    obtain ⟨va, vc, rfl⟩ := hR.form
    exact ⟨va, vc, by rw [List.length_replicate, he], hR, hb⟩
  have hn0 : (n : Int) < 256 := by omega
  have hokH := hide hok
  have hAs : (A.length : Int) ≤ 256 := by have := hok.small; omega
  clear hok he
  have hB0 : Hid (Below w.heap.size w (w.alloc (.cells arr 4))) := (Below.refl _ _).alloc (Nat.le_refl _) _
  go_enter Try.func6, Try.ntmps6
  go_wp2_with (go_at_call 99)
  go_at_call 9
  refine hp.out.mono ?_
  rintro e w0 ⟨va, vc, rfl, hR, hb0⟩
  have hRH := hide hR
  have hbw0 : Hid (Below w.heap.size w w0) := hB0.out.trans (hb0.mono hB0.out.size)
  have hst : Hid (Below w0.heap.size w0 w0) := Below.refl _ _
  clear hR hb0 hp hB0
  go_wp2_with (go_at_call 99)
  go_loopw [8] (fun i wr => ∃ t : Nat, (t = 0 ∨ t < A.length) ∧ i = .int .i64 (t + 1 : Nat) ∧ Hid (Below w0.heap.size w0 wr)) (fun i _ => A.length - (intOf i).toNat)
  case atStart => exact ⟨0, .inl rfl, rfl, hst⟩
  case round =>
    obtain ⟨t, ht, rfl, hbl⟩ := hrel
    clear hst
    obtain ⟨i, hi⟩ : ∃ i, Hid (i = t + 1) := ⟨_, rfl⟩
    rw [← hi.out]
    have hti : (i : Int) - 1 = (t : Int) := by have := hi.out; omega
    rcases Nat.lt_or_ge i A.length with hlt | hge
    · have hlk : (i : Int) < (A.length : Int) := by omega
      have htl : t < A.length := by have := hi.out; omega
      have htlI : (t : Int) < (A.length : Int) := by omega
      obtain ⟨g, vg, vcc, ea, ec, hva, a0, a1, a2, hvc, hec⟩ := (hRH.out.below hbl.out).at hlt
      obtain ⟨g', vh, vcd, ea', ec', hva', b0, b1, b2, hvd, hec'⟩ := (hRH.out.below hbl.out).at htl
      subst hva
      obtain rfl : g = g' := by simpa using hva'
      obtain ⟨X, hX⟩ : ∃ X, Hid (X = (A.getD i ⟨[], [], 0⟩).V) := ⟨_, rfl⟩
      obtain ⟨Y, hY⟩ : ∃ Y, Hid (Y = (A.getD t ⟨[], [], 0⟩).V) := ⟨_, rfl⟩
      have h1 : Hid (totF X Y 3 = 1) := by
        have := hokH.out.one t (by have := hi.out; omega)
        rw [← hi.out] at this
        rw [hX.out, hY.out]; exact this
      rw [← hX.out] at a0 hvc
      rw [← hY.out] at b0 hvd
      have hX3 : X.length = 3 := by rw [hX.out]; exact hokH.out.three i hlt
      have hY3 : Y.length = 3 := by rw [hY.out]; exact hokH.out.three t htl
      rw [hX3] at a0 hvc
      rw [hY3] at b0 hvd
      have hvcH := hide hvc
      have hvdH := hide hvd
      clear a1 a2 b1 b2 hvc hvd hec hec' hva' hX3 hY3
      obtain ⟨wo, rfl⟩ : ∃ x, x = wr := ⟨wr, rfl⟩
      have hst : Hid (Below wo.heap.size wo wo) := Below.refl _ _
      go_wp2_with (go_at_call 99)
      go_loopw [9, 10] (fun ag i wr => ∃ k : Nat, k ≤ 3 ∧ ag = .int .i64 (totF X Y k : Nat) ∧ i = .int .i64 k ∧ Hid (Below wo.heap.size wo wr)) (fun _ i _ => 3 - (intOf i).toNat)
      case atStart => exact ⟨0, Nat.zero_le _, rfl, rfl, hst⟩
      case round =>
        obtain ⟨k, hk, rfl, rfl, hbi⟩ := hrel
        clear hst
        rcases Nat.lt_or_ge k 3 with hkl | hkg
        · have hkI : (k : Int) < 3 := by omega
          obtain ⟨wp, rfl⟩ : ∃ x, x = wr := ⟨wr, rfl⟩
          have hsp : Hid (Below wp.heap.size wp wp) := Below.refl _ _
          obtain ⟨G, hG⟩ : ∃ G, Hid (G = totF X Y k) := ⟨_, rfl⟩
          rw [← hG.out]
          go_wp2_with (go_at_call 99)
          go_loopw [9, 11] (fun ag i wr => ∃ j : Nat, j ≤ 3 ∧ ag = .int .i64 (totF X Y k + rowF X Y k j : Nat) ∧ i = .int .i64 j ∧ Hid (Below wp.heap.size wp wr)) (fun _ i _ => 3 - (intOf i).toNat)
          case atStart => exact ⟨0, Nat.zero_le _, by rw [hG.out]; rfl, rfl, hsp⟩
          case round =>
            obtain ⟨j, hj, rfl, rfl, hbj⟩ := hrel
            clear hsp
            rcases Nat.lt_or_ge j 3 with hjl | hjg
            · have hjI : (j : Int) < 3 := by omega
              obtain ⟨k1, hk1⟩ : ∃ k1, Hid (k1 = (k + 1) % 3) := ⟨_, rfl⟩
              obtain ⟨j1, hj1⟩ : ∃ j1, Hid (j1 = (j + 1) % 3) := ⟨_, rfl⟩
              have hk1I : ((k : Int) + 1) % 3 = (k1 : Int) := by have := hk1.out; omega
              have hj1I : ((j : Int) + 1) % 3 = (j1 : Int) := by have := hj1.out; omega
              have hk1J : ((k : Int) + 1).tmod 3 = (k1 : Int) := by rw [Int.tmod_eq_emod_of_nonneg (by omega)]; exact hk1I
              have hj1J : ((j : Int) + 1).tmod 3 = (j1 : Int) := by rw [Int.tmod_eq_emod_of_nonneg (by omega)]; exact hj1I
              have hk1l : k1 < 3 := by have := hk1.out; omega
              have hj1l : j1 < 3 := by have := hj1.out; omega
              have hk1L : (k1 : Int) < 3 := by omega
              have hj1L : (j1 : Int) < 3 := by omega
              have q0 := keep_cell hbj.out (keep_cell hbi.out a0)
              have q1 := keep_cell hbj.out (keep_cell hbi.out b0)
              have hx0 := keep_cell hbj.out (keep_cell hbi.out (hvcH.out k hkl))
              have hx1 := keep_cell hbj.out (keep_cell hbi.out (hvcH.out k1 hk1l))
              have hy0 := keep_cell hbj.out (keep_cell hbi.out (hvdH.out j hjl))
              have hy1 := keep_cell hbj.out (keep_cell hbi.out (hvdH.out j1 hj1l))
              obtain ⟨x0, ex0⟩ : ∃ x, Hid (x = X.getD k 0) := ⟨_, rfl⟩
              obtain ⟨x1, ex1⟩ : ∃ x, Hid (x = X.getD k1 0) := ⟨_, rfl⟩
              obtain ⟨y0, ey0⟩ : ∃ x, Hid (x = Y.getD j 0) := ⟨_, rfl⟩
              obtain ⟨y1, ey1⟩ : ∃ x, Hid (x = Y.getD j1 0) := ⟨_, rfl⟩
              rw [← ex0.out] at hx0
              rw [← ex1.out] at hx1
              rw [← ey0.out] at hy0
              rw [← ey1.out] at hy1
              obtain ⟨S, hS⟩ : ∃ S, Hid (S = totF X Y k + rowF X Y k j) := ⟨_, rfl⟩
              rw [← hS.out]
              have hSs : (S : Int) ≤ 20 := by
                have := totF_le X Y k
                have := rowF_le X Y k j
                rw [hS.out]; omega
              have hag : Hid (agF X Y k j = ((x0 == y1) && (x1 == y0))) := by
                unfold Hid agF
                rw [ex0.out, ex1.out, ey0.out, ey1.out, hk1.out, hj1.out]
              clear a0 b0
              by_cases e1 : x0 = y1
              · subst e1
                by_cases e2 : x1 = y0
                · subst e2
                  have hnx : Hid (rowF X Y k (j + 1) = rowF X Y k j + 1) := by
                    show rowF X Y k j + _ = _
                    rw [hag.out]; simp
                  go_wp2_with fail
                  go_quiet (fail)
                  obtain ⟨w5, hw5⟩ : ∃ w5, Hid (w5 = wr.drewN nq) := ⟨_, rfl⟩
                  have hb5 : Hid (Below wp.heap.size wp w5) := by rw [hw5.out]; exact hbj.out.trans ((dN wr nq).mono hbj.out.size)
                  rw [← hw5.out]
                  clear q0 q1 hx0 hx1 hy0 hy1
                  go_wp2_with fail
                  exact ⟨⟨j + 1, hjl, by rw [hnx.out, ← Nat.add_assoc, ← hS.out]; rfl, rfl, hb5⟩, by simp [intOf]; omega⟩
                · have d2 : decide (x1 = y0) = false := by simp [e2]
                  have d2' : (x1 == y0) = false := by simp [e2]
                  have hnx : Hid (rowF X Y k (j + 1) = rowF X Y k j) := by
                    show rowF X Y k j + _ = _
                    rw [hag.out]; simp [e2]
                  have he' := hide e2
                  clear e2
                  go_wp2_with fail
                  go_quiet (fail)
                  obtain ⟨w5, hw5⟩ : ∃ w5, Hid (w5 = wr.drewN nq) := ⟨_, rfl⟩
                  have hb5 : Hid (Below wp.heap.size wp w5) := by rw [hw5.out]; exact hbj.out.trans ((dN wr nq).mono hbj.out.size)
                  rw [← hw5.out]
                  clear q0 q1 hx0 hx1 hy0 hy1
                  go_wp2_with fail
                  exact ⟨⟨j + 1, hjl, by rw [hnx.out, ← hS.out], rfl, hb5⟩, by simp [intOf]; omega⟩
              · have d1 : decide (x0 = y1) = false := by simp [e1]
                have d1' : (x0 == y1) = false := by simp [e1]
                have hnx : Hid (rowF X Y k (j + 1) = rowF X Y k j) := by
                  show rowF X Y k j + _ = _
                  rw [hag.out]; simp [e1]
                have he' := hide e1
                clear e1
                go_wp2_with fail
                go_quiet (fail)
                obtain ⟨w5, hw5⟩ : ∃ w5, Hid (w5 = wr.drewN nq) := ⟨_, rfl⟩
                have hb5 : Hid (Below wp.heap.size wp w5) := by rw [hw5.out]; exact hbj.out.trans ((dN wr nq).mono hbj.out.size)
                rw [← hw5.out]
                clear q0 q1 hx0 hx1 hy0 hy1
                go_wp2_with fail
                exact ⟨⟨j + 1, hjl, by rw [hnx.out, ← hS.out], rfl, hb5⟩, by simp [intOf]; omega⟩
            · have hjI : ¬ (j : Int) < 3 := by omega
              have hj3 : j = 3 := by omega
              subst hj3
              have hb2 : Hid (Below wo.heap.size wo wr) := hbi.out.trans (hbj.out.mono hbi.out.size)
              go_wp2_with fail
              exact ⟨⟨k + 1, hkl, rfl, rfl, hb2⟩, by simp [intOf]; omega⟩
        · have hkI : ¬ (k : Int) < 3 := by omega
          have hk3 : k = 3 := by omega
          subst hk3
          rw [h1.out]
          have hb2 : Hid (Below w0.heap.size w0 wr) := hbl.out.trans (hbi.out.mono hbl.out.size)
          go_wp2_with fail
          exact ⟨⟨i, .inr hlt, rfl, hb2⟩, by simp [intOf]; omega⟩
    · have hlk : ¬ (i : Int) < (A.length : Int) := by omega
      have hbw : Hid (Below w.heap.size w wr) := hbw0.out.trans (hbl.out.mono hbw0.out.size)
      have hsz := hbw.out.size
      go_wp2_with (go_at_call 8; refine (awake_any _).mono ?_; rintro e w9 ⟨rfl, hb9⟩)
      go_ret
      exact ⟨rfl, hbw.out.trans (hb9.mono hsz)⟩
end Go.Proofs.Ytjcomklheilfjaa.Build
