/- Layer 7: Prims, the loop. -/
import Derived.Test.YtjcomklheilfjaaStep
set_option linter.unusedVariables false
set_option linter.unusedSimpArgs false
namespace Go.Proofs.Ytjcomklheilfjaa.Build
open Go.RowKit Go

set_option maxHeartbeats 4000000 in
set_option maxRecDepth 100000 in
theorem prims_m (m : Nat) (hm : m < 9) (fb : Option Addr) (fcap : Nat) (fs : List Bool) (first : Bool) (w : World) (hlen : fs.length ≤ 256) (hF : FlagR w fb fs) :
    Calls Try.prog 9 #[.int .i64 m, .slice fb fs.length fcap, .bool first] w fun e w' => ∃ v, e = .returned (.tuple #[v, .int .i64 0]) ∧ PrimsR w' v (primsF m fs first) ∧ Below w.heap.size w w' := by
  have hlenI : ¬ (256 : Int) < (fs.length : Int) := by omega
  have h1 : ¬ (m : Int) < 0 := by omega
  have h2 : ¬ (9 : Int) < (m : Int) := by omega
  have h5 : ((m : Int) == 9) = false := by simp; omega
  have hplan := hide (plans_any m hm)
  have hFH := hide hF
  clear hF
  go_enter Try.func9, Try.ntmps9
  go_wp2_with (go_at_call 99)
  go_at_call 15
  refine (hplan.out w).mono ?_
  obtain ⟨p, hp⟩ : ∃ p, Hid (p = planOf m) := ⟨_, rfl⟩
  rw [← hp.out]
  rintro e w1 ⟨vs, os, rfl, ⟨vg, vc, rfl, hcap, hg, hcells⟩, ho1, ho2, hb⟩
  obtain ⟨oa, on, oc, hos⟩ : ∃ oa on oc, os = .slice oa on oc := by
    by_cases h : p.odd = []
    · exact ⟨_, _, _, ho1 h⟩
    · obtain ⟨g', cap', h', _⟩ := ho2 h
      exact ⟨_, _, _, h'⟩
  subst hos
  have hvl : (ints p.v).length = p.v.length := by simp [ints]
  rw [hvl]
  have hsz := hb.size
  obtain ⟨obj, hobj⟩ : ∃ obj, Hid (obj = Obj.cells #[.int .i64 p.step, .slice (some ⟨vg, 0, none⟩) p.v.length vc, .slice oa on oc, .int .i64 p.first, .int .i64 p.last, .bool p.flagged, .bool p.anchored] 41) := ⟨_, rfl⟩
  have hbase : Hid (Base (w1.alloc obj) w1.heap.size p vg vc (.slice oa on oc) fb fs) := by
    have hk : Below w1.heap.size w1 (w1.alloc obj) := (Below.refl _ _).alloc (Nat.le_refl _) _
    have hc : ∀ (j : Nat) (x : Value), ([.int .i64 p.step, .slice (some ⟨vg, 0, none⟩) p.v.length vc, .slice oa on oc, .int .i64 p.first, .int .i64 p.last, .bool p.flagged, .bool p.anchored] : List Value)[j]? = some x → (w1.alloc obj).cell? ⟨w1.heap.size, j, none⟩ = some x := fun j x hx => by
      rw [hobj.out, (Blk.new w1 41 [.int .i64 p.step, .slice (some ⟨vg, 0, none⟩) p.v.length vc, .slice oa on oc, .int .i64 p.first, .int .i64 p.last, .bool p.flagged, .bool p.anchored] rfl).cell]; exact hx
    refine ⟨hc 0 _ rfl, hc 1 _ rfl, hc 2 _ rfl, hc 3 _ rfl, hc 4 _ rfl, hc 5 _ rfl, hc 6 _ rfl, fun k hk' => keep_cell hk (ints_cell hcells k hk'), ho1, fun h => ?_, fun x hx => ?_⟩
    · obtain ⟨og, oc', e, _, _, h1⟩ := ho2 h
      have hol : (ints p.odd).length = p.odd.length := by simp [ints]
      rw [hol] at e
      exact ⟨og, oc', e, fun k hk' => keep_cell hk (ints_cell h1 k hk')⟩
    · obtain ⟨fa, e, h1⟩ := hFH.out x hx
      exact ⟨fa, e, keep_cell hk (keep_cell hb h1)⟩
  have hbw : Hid (Below w.heap.size w (w1.alloc obj)) := hb.alloc hsz obj
  have hobjE := hide hobj.out.symm
  clear ho1 ho2 hcells hcap hb hvl hg
  go_wp2_with (go_at_call 99)
  go_at_call 12
  rw [hobjE.out]
  refine (count_any m fs.length _).mono ?_
  rintro e W0 ⟨rfl, hb0⟩
  obtain ⟨C, hC⟩ : ∃ C : Nat, Hid (C = countN m fs.length) := ⟨_, rfl⟩
  have hCI : countF m fs.length = (C : Int) := by rw [hC.out]; exact (countN_cast m fs.length hlen).symm
  rw [hCI]
  have hbase0 := hide (hbase.out.below hb0)
  have hbw0 : Hid (Below w.heap.size w W0) := hbw.out.trans (hb0.mono hbw.out.size)
  clear hb0 hCI hsz
  go_wp2_with (go_at_call 99)
  have hCb : Hid (C ≤ 256 ∧ (0 < C → 1 ≤ fs.length)) := by
    have h := countF_bd m fs.length hlen
    have e := countN_cast m fs.length hlen
    rw [← hC.out] at e
    exact ⟨by omega, fun h0 => by omega⟩
  have hstart : Hid (PInv W0 (.slice none 0 0) ((List.range 0).map (primF p fs first)) W0) := PInv.start W0
  go_loopw [9, 35] (fun v i wr => ∃ k : Nat, k ≤ C ∧ i = .int .i64 k ∧ Hid (PInv W0 v ((List.range k).map (primF p fs first)) wr))
    (fun _ i _ => C - (intOf i).toNat)
  case atStart => exact ⟨0, Nat.zero_le _, rfl, hstart⟩
  case round =>
    obtain ⟨k, hk, rfl, hinv⟩ := hrel
    clear hstart
    rcases Nat.lt_or_ge k C with hlt | hge
    · have hlk : (k : Int) < (C : Int) := by omega
      have hB := hbase0.out.below hinv.out.1
      have b0 := hB.c0
      have b1 := hB.c1
      have b2 := hB.c2
      have b3 := hB.c3
      have b4 := hB.c4
      have b5 := hB.c5
      have b6 := hB.c6
      have hBH := hide hB
      clear hB
      have hn1 : 1 ≤ fs.length := hCb.out.2 (by omega)
      have hk256 : (k : Int) ≤ 256 := by have := hCb.out.1; omega
      obtain ⟨A, hA⟩ : ∃ A, Hid (A = addOf p k) := ⟨_, rfl⟩
      obtain ⟨ODD, hODD⟩ : ∃ b : Bool, Hid (b = decide (k % 2 = 1 ∧ p.odd ≠ [])) := ⟨_, rfl⟩
      go_upto_region 13 with (go_at_call 99)
      go_cut [35, 47] from 35 to 108 (fun s35 s47 wx => s35 = .int .i64 k ∧ s47 = .bool ODD ∧ wx = wr)
      case first =>
        by_cases hodd : p.odd = []
        · have hod : Hid (ODD = false) := by unfold Hid; rw [hODD.out, decide_eq_false_iff_not]; exact fun h => h.2 hodd
          have hos := hBH.out.o0 hodd
          simp only [Value.slice.injEq] at hos
          obtain ⟨rfl, rfl, rfl⟩ := hos
          clear hodd
          rcases Nat.mod_two_eq_zero_or_one k with h | h
          · have hpar : ((k : Int) % 2 == 1) = false := by simp; omega
            clear h
            go_wp2_with fail
            go_meet
            exact ⟨rfl, by rw [hod.out], rfl⟩
          · have hpar : ((k : Int) % 2 == 1) = true := by simp; omega
            clear h
            go_wp2_with fail
            go_meet
            exact ⟨rfl, by rw [hod.out], rfl⟩
        · obtain ⟨og, oc', hos, _⟩ := hBH.out.o1 hodd
          simp only [Value.slice.injEq] at hos
          obtain ⟨rfl, rfl, rfl⟩ := hos
          rcases Nat.mod_two_eq_zero_or_one k with h | h
          · have hod : Hid (ODD = false) := by unfold Hid; rw [hODD.out, decide_eq_false_iff_not]; exact fun h' => by omega
            have hpar : ((k : Int) % 2 == 1) = false := by simp; omega
            clear h hodd
            go_wp2_with fail
            go_meet
            exact ⟨rfl, by rw [hod.out], rfl⟩
          · have hod : Hid (ODD = true) := by unfold Hid; rw [hODD.out, decide_eq_true_eq]; exact ⟨h, hodd⟩
            have hpar : ((k : Int) % 2 == 1) = true := by simp; omega
            clear h hodd
            go_wp2_with fail
            go_meet
            exact ⟨rfl, by rw [hod.out], rfl⟩
      case rest =>
      obtain ⟨rfl, rfl, hwE⟩ := hcut
      rw [hwE]
      clear hwE
      clear wc
      go_upto_if 47 with fail
      go_cut [11, 35] from 35 to 108 (fun s11 s35 wx => s35 = .int .i64 k ∧ wx = wr ∧ ∃ ag ac, s11 = .slice (some ⟨ag, 0, none⟩) A.length ac ∧ Hid (∀ j, j < A.length → wr.cell? ⟨ag, j, none⟩ = some (.int .i64 (A.getD j 0))))
      case first =>
        cases ODD with
        | false =>
          have hAv : Hid (A = p.v) := by
            have h := hODD.out.symm
            rw [decide_eq_false_iff_not] at h
            unfold Hid; rw [hA.out]; unfold addOf; rw [if_neg h]
          go_wp2_with fail
          go_meet
          exact ⟨rfl, rfl, vg, vc, by rw [hAv.out], by rw [hAv.out]; exact hBH.out.v⟩
        | true =>
          have h := hODD.out.symm
          rw [decide_eq_true_eq] at h
          have hAv : Hid (A = p.odd) := by unfold Hid; rw [hA.out]; unfold addOf; rw [if_pos h]
          obtain ⟨og, oc', hos, hoc⟩ := hBH.out.o1 h.2
          have hocH := hide hoc
          simp only [Value.slice.injEq] at hos
          obtain ⟨rfl, rfl, rfl⟩ := hos
          clear h hoc
          go_wp2_with fail
          go_meet
          exact ⟨rfl, rfl, og, oc, by rw [hAv.out], by rw [hAv.out]; exact hocH.out⟩
      case rest =>
      obtain ⟨rfl, hwE, ag, ac, rfl, hAc⟩ := hcut
      rw [hwE]
      clear hwE
      clear wc
      obtain ⟨wo, rfl⟩ : ∃ x, x = wr := ⟨wr, rfl⟩
      obtain ⟨s1, s2⟩ := planOf_step m
      obtain ⟨l1, l2⟩ := planOf_len m
      obtain ⟨a1, a2⟩ := addOf_bd m k
      rw [← hp.out, ← hA.out] at a1
      rw [← hp.out] at s1 s2 l1 l2 a2
      rw [← hA.out] at a2
      have hAl : A.length ≤ 4 := by omega
      have hAl1 : 1 ≤ A.length := by omega
      have ha2 := hide a2
      have hmul : 0 ≤ p.step * (k : Int) ∧ p.step * (k : Int) ≤ 4 * 256 := ⟨Int.mul_nonneg (by omega) (by omega), Int.mul_le_mul s2 hk256 (by omega) (by omega)⟩
      obtain ⟨M, hM⟩ : ∃ M, p.step * (k : Int) = M := ⟨_, rfl⟩
      rw [hM] at hmul
      obtain ⟨hM0, hM1⟩ := hmul
      have hMH := hide hM
      obtain ⟨N, hN⟩ : ∃ N : Int, Hid (N = (fs.length : Int)) := ⟨_, rfl⟩
      have hmk := make_ints A.length (by omega)
      obtain ⟨f, hf⟩ : ∃ f : Nat → Value, Hid (f = fun q => .int .i64 ((M + A.getD q 0) % (fs.length : Int))) := ⟨_, rfl⟩
      obtain ⟨arr, harr⟩ : ∃ arr, Hid (arr = (List.replicate A.length (Value.int .i64 0)).toArray) := ⟨_, rfl⟩
      rw [← harr.out] at hmk
      have hb0 : Hid (Blk (wo.alloc (.cells arr 3)) wo.heap.size 3 (fill A.length f (.int .i64 0) 0)) := Blk.new wo 3 _ (by rw [harr.out, fill_zero])
      have hB0 : Hid (Below wo.heap.size wo (wo.alloc (.cells arr 3))) := (Below.refl _ _).alloc (Nat.le_refl _) _
      have hn1I : (1 : Int) ≤ (fs.length : Int) := by omega
      have hn256 : (fs.length : Int) ≤ 256 := by omega
      have hag : ag < wo.heap.size := lt_of_cell (p := ⟨ag, 0, none⟩) (hAc.out 0 (by omega))
      clear a1 a2 b1 b2
      go_wp2_with fail
      go_loopw [55] (fun j wx => ∃ q : Nat, q ≤ A.length ∧ j = .int .i64 q ∧ Hid (Blk wx wo.heap.size 3 (fill A.length f (.int .i64 0) q)) ∧ Hid (Below wo.heap.size wo wx))
        (fun j _ => A.length - (intOf j).toNat)
      case atStart => exact ⟨0, Nat.zero_le _, rfl, hb0, hB0⟩
      case round =>
        obtain ⟨q, hq, rfl, hblk, hbx⟩ := hrel
        clear hb0 hB0
        rcases Nat.lt_or_ge q A.length with hqlt | hqge
        · have hqlk : (q : Int) < (A.length : Int) := by omega
          obtain ⟨x, hx⟩ : ∃ x, Hid (x = A.getD q 0) := ⟨_, rfl⟩
          have hc : wo.cell? ⟨ag, q, none⟩ = some (.int .i64 x) := by rw [hx.out]; exact hAc.out q hqlt
          have hc' := keep_cell hbx.out hc
          have hb0' := keep_cell hbx.out b0
          obtain ⟨x1, x2⟩ := ha2.out q
          rw [← hx.out] at x1 x2
          obtain ⟨u, hu⟩ := fill_get (f := f) (z := .int .i64 0) (k := q) hqlt
          have hc2 : wr.cell? ⟨wo.heap.size, q, none⟩ = some u := by rw [hblk.out.cell]; exact hu
          have hz2 : wr.frozen? ⟨wo.heap.size, q, none⟩ = false := hblk.out.frozen q
          clear hu hc
          go_wp2
          refine ⟨⟨q + 1, hqlt, rfl, ?_, hbx.out.setCell (p := ⟨wo.heap.size, q, none⟩) (Nat.le_refl _) _⟩, ?_⟩
          · unfold Hid
            rw [← fill_set hqlt (u := .int .i64 ((M + x) % (fs.length : Int))) (by rw [hf.out, hx.out])]
            exact hblk.out.set q _
          · simp [intOf]; omega
        · have hqlk : ¬ (q : Int) < (A.length : Int) := by omega
          have hqA : q = A.length := by omega
          subst hqA
          obtain ⟨V, hV⟩ : ∃ V, Hid (V = vertsOf p fs.length k) := ⟨_, rfl⟩
          have hVl : V.length = A.length := by rw [hV.out, vertsOf, List.length_map, List.length_range, hA.out]
          have hVlH := hide hVl
          obtain ⟨AN, hAN⟩ : ∃ AN, Hid (AN = p.anchored) := ⟨_, rfl⟩
          have b6' : wr.cell? ⟨w1.heap.size, 6, none⟩ = some (.bool AN) := by rw [hAN.out]; exact keep_cell hbx.out b6
          have hblk0 := hblk.out
          rw [fill_all] at hblk0
          have hc2 : wr.cell? ⟨wo.heap.size, 0, none⟩ = some (f 0) := by rw [hblk0.cell]; simp [List.getElem?_map, List.getElem?_range hAl1]
          have hz2 : wr.frozen? ⟨wo.heap.size, 0, none⟩ = false := hblk0.frozen 0
          have hblk1 := hide hblk0
          clear hblk0 hVl
          go_upto_if 75 with fail
          go_cut [35] from 35 to 108 (fun s35 wx => s35 = .int .i64 k ∧ Hid (Blk wx wo.heap.size 3 (ints V)) ∧ Hid (Below wo.heap.size wo wx))
          case first =>
            cases AN with
            | false =>
              have hVe : Hid ((List.range A.length).map f = ints V) := by
                unfold Hid
                rw [hV.out, vertsOf, ints, List.map_map, ← hA.out]
                refine List.map_congr_left fun q _ => ?_
                show f q = Value.int .i64 (vertF p fs.length k q)
                rw [hf.out]
                unfold vertF
                rw [if_neg (fun h => by have := hAN.out; rw [h.1] at this; cases this), hMH.out, ← hA.out]
              go_wp2_with fail
              go_meet
              exact ⟨rfl, by rw [← hVe.out]; exact hblk1, hbx⟩
            | true =>
              have hVe : Hid (((List.range A.length).map f).set 0 (.int .i64 0) = ints V) := by
                unfold Hid
                rw [hV.out, vertsOf, ints, List.map_map, ← hA.out]
                apply List.ext_getElem?
                intro q
                rw [List.getElem?_set]
                rcases Nat.lt_or_ge q A.length with h | h
                · simp only [List.getElem?_map, List.getElem?_range h, Option.map_some, List.length_map, List.length_range]
                  by_cases hq0 : 0 = q
                  · subst hq0
                    rw [if_pos rfl, if_pos (show 0 < A.length from hAl1)]
                    show some (Value.int .i64 0) = some (Value.int .i64 (vertF p fs.length k 0))
                    unfold vertF
                    rw [if_pos ⟨hAN.out.symm, rfl⟩]
                  · rw [if_neg hq0]
                    show some (f q) = some (Value.int .i64 (vertF p fs.length k q))
                    rw [hf.out]
                    unfold vertF
                    rw [if_neg (fun h => hq0 h.2.symm), hMH.out, ← hA.out]
                · have hq0 : ¬ 0 = q := by omega
                  rw [if_neg hq0]
                  simp [h]
              go_wp2_with fail
              go_meet
              exact ⟨rfl, by unfold Hid; rw [← hVe.out]; exact hblk1.out.set 0 _, hbx.out.setCell (p := ⟨wo.heap.size, 0, none⟩) (Nat.le_refl _) _⟩
          case rest =>
          obtain ⟨rfl, hVb, hbc⟩ := hcut
          obtain ⟨wd, rfl⟩ : ∃ x, x = wc := ⟨wc, rfl⟩
          have hob : Hid (Below wo.heap.size wo wd) := hbc
          have hVlI : V.length = A.length := hVlH.out
          have hin : Hid (∀ j, j < V.length → ∃ r : Nat, V.getD j 0 = (r : Int) ∧ r < fs.length) := fun j hj => by
            have e : V.getD j 0 = vertF p fs.length k j := by
              rw [hV.out] at hj ⊢
              unfold vertsOf at hj ⊢
              rw [List.length_map, List.length_range] at hj
              simp [List.getD_eq_getElem?_getD, List.getElem?_map, List.getElem?_range hj]
            rw [e]
            unfold vertF
            split
            · exact ⟨0, rfl, by omega⟩
            · have h1 := Int.emod_nonneg (p.step * (k : Int) + (addOf p k).getD j 0) (show (fs.length : Int) ≠ 0 by omega)
              have h2 := Int.emod_lt_of_pos (p.step * (k : Int) + (addOf p k).getD j 0) (show (0 : Int) < (fs.length : Int) by omega)
              exact ⟨((p.step * (k : Int) + (addOf p k).getD j 0) % (fs.length : Int)).toNat, by omega, by omega⟩
          have hbx2 : Hid (∀ W, Below wd.heap.size wd W → Base W w1.heap.size p vg vc (.slice oa on oc) fb fs) := fun W hW => (hBH.out.below hob.out).below hW
          have hsides : Hid (∀ W, Below wd.heap.size wd W → Calls Try.prog 16 #[.slice (some ⟨wo.heap.size, 0, none⟩) A.length A.length, .slice fb fs.length fcap, .bool p.flagged] W fun e w' => ∃ ea en ec, e = .returned (.slice ea en ec) ∧ EdgeR W.heap.size w' (.slice ea en ec) (sidesF V fs p.flagged) ∧ Below W.heap.size W w') := fun W hW => by
            have h := sides_any wo.heap.size A.length V fb fcap fs p.flagged W (by omega) (by omega) (fun j hj => by
              rw [hW.cell (p := ⟨wo.heap.size, j, none⟩) hVb.out.lt, hVb.out.cell]
              simp [ints, List.getD_eq_getElem?_getD, hj]) (hbx2.out W hW).f hin.out
            rw [hVlI] at h
            refine h.mono ?_
            rintro e w' ⟨v, rfl, hE, hb⟩
            obtain ⟨ea, en, ec, rfl⟩ : ∃ ea en ec, v = .slice ea en ec := by
              rcases hE with ⟨_, rfl⟩ | ⟨g, _, rfl, _⟩
              · exact ⟨_, _, _, rfl⟩
              · exact ⟨_, _, _, rfl⟩
            exact ⟨ea, en, ec, rfl, hE, hb⟩
          have hBw := hbx2.out wd (Below.refl _ _)
          have e0 := hBw.c0
          have e4 := hBw.c4
          have e5 := hBw.c5
          have hla := (planOf_bd m).2.1
          rw [← hp.out] at hla
          obtain ⟨la0, la1⟩ := hla
          have hfs : ¬ fs = [] := fun e => by rw [e] at hn1; simp at hn1
          have hwo : wo.heap.size < wd.heap.size := hVb.out.lt
          have hw1 : IntKind.i64.wrap M = M := by rw [IntKind.wrap_i64]; omega
          have hw2 : IntKind.i64.wrap (M + p.last) = M + p.last := by rw [IntKind.wrap_i64]; omega
          have hne1 : wd.heap.size ≠ w1.heap.size := by have := lt_of_cell e0; simp only at this; omega
          clear hBw hVlI b0 b3 b4 b5 b6
          go_upto_region 23 with fail
          go_cut [15, 35] from 35 to 108 (fun s15 s35 wx => s35 = .int .i64 k ∧ ∃ xg ea en ec, s15 = .pointer (some ⟨xg, 0, none⟩) ∧ Hid (Blk wx xg 35 [.slice (some ⟨wo.heap.size, 0, none⟩) A.length A.length, .slice ea en ec, .int .i64 ((M + p.last) % (fs.length : Int))]) ∧ Hid (EdgeR wd.heap.size wx (.slice ea en ec) (sidesF V fs p.flagged)) ∧ Hid (Below wd.heap.size wd wx) ∧ wd.heap.size ≤ xg ∧ wo.heap.size < wx.heap.size ∧ Hid ((Value.slice ea en ec).ownBlock ≠ some xg))
          case first =>
            go_region_held3 (fun w' => w'.cell? ⟨w1.heap.size, 0, none⟩ = some (.int .i64 p.step) ∧ w'.cell? ⟨w1.heap.size, 4, none⟩ = some (.int .i64 p.last) ∧ w'.cell? ⟨w1.heap.size, 5, none⟩ = some (.bool p.flagged)) (first | exact ⟨e0, e4, e5⟩ | exact ⟨d0, d4, d5⟩ | exact ⟨three_stores hne1 d0, three_stores hne1 d4, three_stores hne1 d5⟩ | exact ⟨old_keep d0, old_keep d4, old_keep d5⟩ | exact ⟨old_keep e0, old_keep e4, old_keep e5⟩ | go_keep) (first | (go_at_call 16; refine (hsides.out _ (Below.refl _ _).drew).mono ?_; rintro e w4 ⟨ea, en, ec, rfl, hE4, hb4⟩; have hb5 := undrew hb4; have d0 := keep_cell hb5 e0; have d4 := keep_cell hb5 e4; have d5 := keep_cell hb5 e5; clear hb4) | (go_at_call 16; refine (hsides.out _ ((Below.refl _ _).alloc (Nat.le_refl _) _).drew).mono ?_; rintro e w4 ⟨ea, en, ec, rfl, hE4, hb4⟩; have hb6 := undrew hb4; have hb5 := ((Below.refl wd.heap.size wd).alloc (Nat.le_refl _) _).trans (hb6.mono (by simp)); have d0 := keep_cell hb5 e0; have d4 := keep_cell hb5 e4; have d5 := keep_cell hb5 e5; have hX4 := (Blk.new wd 35 [.slice none 0 0, .slice none 0 0, .int .i64 0] rfl).keep hb6 (by simp); have y0 := hX4.cell 0; have y1 := hX4.cell 1; have y2 := hX4.cell 2; have z0 := hX4.frozen 0; have z1 := hX4.frozen 1; have z2 := hX4.frozen 2; have hX4H := hide hX4; simp only [List.getElem?_cons_zero, List.getElem?_cons_succ] at y0 y1 y2; clear hb4 hb6 hX4))
            · have hmod : (M + p.last).tmod (fs.length : Int) = (M + p.last) % (fs.length : Int) := Int.tmod_eq_emod_of_nonneg (by omega)
              have hE5 := hide ((EdgeR.mono (B' := wd.heap.size) hE4 (Nat.le_refl _)).alloc (.cells #[.slice (some ⟨wo.heap.size, 0, none⟩) A.length A.length, .slice ea en ec, .int .i64 ((M + p.last).tmod fs.length)] 35))
              have hb7 := hide hb5
              have hsw := hb5.size
              have hEl := hide (fun (e : (Value.slice ea en ec).ownBlock = some w4.heap.size) => Nat.lt_irrefl _ (EdgeR.ownlt hE4 _ e))
              clear hE4 hb5 d0 d4 d5
              have hmodH := hide hmod
              clear hmod
              go_wp2_with fail
              go_meet
              exact ⟨rfl, w4.heap.size, ea, en, ec, rfl, Blk.new w4 35 _ (by rw [hmodH.out]), hE5.out, hb7.out.alloc hsw _, hsw, by simp; have := hwo; omega, hEl.out⟩
            · have hmod : (M + p.last).tmod (fs.length : Int) = (M + p.last) % (fs.length : Int) := Int.tmod_eq_emod_of_nonneg (by omega)
              have hE5 := hide ((((EdgeR.mono (B' := wd.heap.size + 1) hE4 (by simp)).other (a := ⟨wd.heap.size, 0, none⟩) (by simp) (.slice (some ⟨wo.heap.size, 0, none⟩) A.length A.length)).other (a := ⟨wd.heap.size, 1, none⟩) (by simp) (.slice ea en ec)).other (a := ⟨wd.heap.size, 2, none⟩) (by simp) (.int .i64 ((M + p.last).tmod fs.length)))
              have hb7 := hide hb5
              have hsw := hb5.size
              have hX5 := hide (((hX4H.out.set 0 (.slice (some ⟨wo.heap.size, 0, none⟩) A.length A.length)).set 1 (.slice ea en ec)).set 2 (.int .i64 ((M + p.last).tmod fs.length)))
              clear hE4 hb5 d0 d4 d5 y0 y1 y2 z0 z1 z2
              have hmodH := hide hmod
              clear hmod
              go_wp2_with fail
              go_meet
              exact ⟨rfl, wd.heap.size, ea, en, ec, rfl, by have h := hX5.out; rw [hmodH.out] at h ⊢; exact h, hE5.out.mono (by omega), ((hb7.out.setCell (p := ⟨wd.heap.size, 0, none⟩) (Nat.le_refl _) _).setCell (p := ⟨wd.heap.size, 1, none⟩) (Nat.le_refl _) _).setCell (p := ⟨wd.heap.size, 2, none⟩) (Nat.le_refl _) _, Nat.le_refl _, by simp [World.setCell]; have := hwo; omega, fun e => by have := hE5.out.own _ e; omega⟩
          case rest =>
          obtain ⟨rfl, xg, ea, en, ec, rfl, hxb, hE, hbd, hxg, hwx, hEx⟩ := hcut
          have hwow : Hid (Below wo.heap.size wo wc) := hob.out.trans (hbd.out.mono hob.out.size)
          have hVb2 : Hid (Blk wc wo.heap.size 3 (ints V)) := hVb.out.keep hbd.out hVb.out.lt
          have hxgo : wo.heap.size < xg := by omega
          obtain ⟨PF, hPF⟩ : ∃ PF, Hid (PF = (primF p fs first k).P) := ⟨_, rfl⟩
          have hBc := (hBH.out.below hwow.out)
          have e0' := hBc.c0
          have e3' := hBc.c3
          have hfi := (planOf_bd m).1
          rw [← hp.out] at hfi
          obtain ⟨fi0, fi1⟩ := hfi
          have y2 : wc.cell? ⟨xg, 2, none⟩ = some (.int .i64 ((M + p.last) % (fs.length : Int))) := hxb.out.cell 2
          have z2 := hxb.out.frozen 2
          clear hBc e0 e4 e5
          go_upto_if 95 with fail
          go_cut [35] from 35 to 108 (fun s35 wx => s35 = .int .i64 k ∧ Hid (Blk wx xg 35 [.slice (some ⟨wo.heap.size, 0, none⟩) A.length A.length, .slice ea en ec, .int .i64 PF]) ∧ Hid (Blk wx wo.heap.size 3 (ints V) ∧ EdgeR wo.heap.size wx (.slice ea en ec) (sidesF V fs p.flagged) ∧ Below wo.heap.size wo wx))
          case first =>
            cases first with
            | false =>
              have hPE : Hid (PF = (M + p.last) % (fs.length : Int)) := by unfold Hid; rw [hPF.out]; show (p.step * (k : Int) + p.last) % (fs.length : Int) = _; rw [hMH.out]
              clear y2 z2
              go_wp2_with fail
              go_meet
              exact ⟨rfl, by rw [hPE.out]; exact hxb, hVb2.out, hE.out.mono (by omega), hwow.out⟩
            | true =>
              have hPE : Hid (PF = M + p.first) := by unfold Hid; rw [hPF.out]; show p.step * (k : Int) + p.first = _; rw [hMH.out]
              go_wp2_with fail
              go_meet
              exact ⟨rfl, by have h := hxb.out.set 2 (.int .i64 (M + p.first)); rw [hPE.out]; exact h, hVb2.out.other (a := ⟨xg, 2, none⟩) (by simp only; omega) _, (hE.out.mono (by omega)).other2 (a := ⟨xg, 2, none⟩) hEx.out _, hwow.out.setCell (p := ⟨xg, 2, none⟩) (by simp only; omega) _⟩
          case rest =>
          clear y2 z2 e0' e3' hE hbd hxb hVb2
          obtain ⟨rfl, hxb, hfin⟩ := hcut
          have hinv2 := hide (hinv.out.below hfin.out.2.2)
          obtain ⟨cs, hown, hel⟩ := hinv2.out.2
          have hplen : ((List.range k).map (primF p fs first)).length = k := by simp
          rw [hplen] at hown
          have hownH := hide hown
          have hx0 : wc.cell? ⟨xg, 0, none⟩ = some (.slice (some ⟨wo.heap.size, 0, none⟩) A.length A.length) := hxb.out.cell 0
          have hx1 : wc.cell? ⟨xg, 1, none⟩ = some (.slice ea en ec) := hxb.out.cell 1
          have hx2 : wc.cell? ⟨xg, 2, none⟩ = some (.int .i64 PF) := hxb.out.cell 2
          have hW0 : W0.heap.size ≤ wc.heap.size := hinv2.out.1.size
          have hkC : k ≤ 256 := by omega
          clear hown
          go_wp2_with (first
            | (at_builtin; refine wpList_append_any _ rfl (.tmp 104) (.tmp 106) 24 rfl Try.underlying24 room35 cells35 rfl rfl (hownH.out.alloc _) (reads_blk _ 1 1 rfl rfl (by omega)) rfl (by intro u hu; simp at hu; rcases hu with rfl | rfl | rfl <;> rfl) (by omega) (by simp; omega) ?_)
            | (go_at_call 99))
          intro va vn vcc w5 hown5 hg5 hat5
          have hmoreH := hide (prim_step hinv.out hfin.out.2.2 hfin.out.1 hfin.out.2.1 hV.out hVlH.out hAl1 hPF.out hownH.out hel hown5 hg5 hat5)
          clear hown5 hg5 hat5 hel hx0 hx1 hx2
          go_wp2_with (go_at_call 99)
          refine ⟨⟨k + 1, hlt, rfl, hmoreH⟩, ?_⟩
          simp [intOf]; omega
    · have hlk : ¬ (k : Int) < (C : Int) := by omega
      have hkC : k = C := by omega
      have hfin : Hid (PrimsR wr u9 (primsF m fs first)) := by
        have h := hinv.out.done
        rw [hkC, hC.out, hp.out] at h
        exact h
      have hbf : Hid (Below w.heap.size w wr) := hbw0.out.trans (hinv.out.1.mono hbw0.out.size)
      go_wp2_with (go_at_call 99)
      go_ret2
      exact ⟨u9, rfl, hfin.out, hbf.out⟩
end Go.Proofs.Ytjcomklheilfjaa.Build
