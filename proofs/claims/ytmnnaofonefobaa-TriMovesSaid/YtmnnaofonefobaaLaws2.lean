/- Layer 20: the law TriMoves, as a function. -/
import Derived.Test.YtmnnaofonefobaaLaws
set_option linter.unusedVariables false
set_option linter.unusedSimpArgs false
set_option maxRecDepth 10000
namespace Go.Proofs.Ytmnnaofonefobaa.Fns
open Go.Sx Go.Proofs.Ytmnnaofonefobaa.Trees Go.Proofs.Ytmnnaofonefobaa.Plain

theorem moved_list {ax ay bx b' cx cy dx dy : Int} (h1 : -128 ≤ dx) (h2 : dx ≤ 127) (h3 : -128 ≤ dy) (h4 : dy ≤ 127) : spansL (ax + 256*dx) (ay + 256*dy) (bx + 256*dx) (b' + 256*dy) (cx + 256*dx) (cy + 256*dy) (dx - 9) (dy - 9) (dx + 12) (dy + 12) =
    (spansL ax ay bx b' cx cy (-9) (-9) 12 12).map (fun r => [r.getD 0 0 + dy, r.getD 1 0 + dx, r.getD 2 0 + dx]) := by
  unfold spansL
  rw [if_pos (by unfold rightP; omega), if_pos (by unfold rightP; omega)]
  have := spans_map (g := spanAt ax ay bx b' cx cy (-9) 12) (g' := spanAt (ax + 256*dx) (ay + 256*dy) (bx + 256*dx) (b' + 256*dy) (cx + 256*dx) (cy + 256*dy) (-9 + dx) (12 + dx)) (f := fun r => [r.getD 0 0 + dy, r.getD 1 0 + dx, r.getD 2 0 + dx]) (y0 := -9) (d := dy) (fun y => spanAt_move y) (n := (12 - -9 : Int).toNat)
  rw [show dx - 9 = -9 + dx by omega, show dx + 12 = 12 + dx by omega, show dy - 9 = -9 + dy by omega, show (dy + 12 - (-9 + dy)).toNat = (12 - -9 : Int).toNat by omega]
  exact this
theorem span_row {ax ay bx b' cx cy : Int} {r : List Int} (h : r ∈ spansL ax ay bx b' cx cy (-9) (-9) 12 12) : ∃ y f t, r = [y, f, t] ∧ -9 ≤ y ∧ y < 12 ∧ -9 ≤ f ∧ f < t ∧ t ≤ 12 ∧ ∀ x, (f ≤ x ∧ x < t) ↔ ((-9 ≤ x ∧ x < 12) ∧ hasP ax ay bx b' cx cy (256 * x + 128) (256 * y + 128)) := by
  unfold spansL at h
  rw [if_pos (by unfold rightP; omega)] at h
  obtain ⟨y, h1, h2, h3⟩ := spans_mem h
  obtain ⟨f, t, hft, hg⟩ := spanAt_spec (ax := ax) (ay := ay) (bx := bx) (by' := b') (cx := cx) (cy := cy) (X0 := -9) (X1 := 12) (y := y)
  rw [hg] at h3
  split at h3
  · rename_i hlt
    have h4 : r = [y, f, t] := by simpa using h3
    have k1 := (hft f).1 ⟨Int.le_refl _, hlt⟩
    have k2 := (hft (t - 1)).1 ⟨by omega, by omega⟩
    exact ⟨y, f, t, h4, by omega, by omega, by omega, hlt, by omega, hft⟩
  · simp at h3
def c7 : Contract := CFn sg7 (fun | [.i ax, .i ay, .i bx, .i b', .i cx, .i cy, .i dx, .i dy] => -128 ≤ dx ∧ dx ≤ 127 ∧ -128 ≤ dy ∧ dy ≤ 127 | _ => False) (fun _ => [.b true])
theorem kinds7 {ds : List DV} {k : IntKind} (h : kinds [.c (.i k), .c (.i k), .c (.i k), .c (.i k), .c (.i k), .c (.i k), .c (.i k)] ds = true) : ∃ a b c d e f g, ds = [.i a, .i b, .i c, .i d, .i e, .i f, .i g] := by
  match ds, h with
  | [.i a, .i b, .i c, .i d, .i e, .i f, .i g], _ => exact ⟨a, b, c, d, e, f, g, rfl⟩
theorem w64 {n : Int} (h1 : -4611686018427387904 ≤ n) (h2 : n ≤ 4611686018427387904) : IntKind.i64.wrap n = n := by rw [IntKind.wrap_i64]; omega
theorem ok7 : ContractOk Try.prog 7 c7 := by
  refine contract_of (Γ := knownOf [(8, c8), (10, c10), (11, c11), (13, cSpans sg13), (19, cHas sg19)]) (known_cons ok8 rfl (known_cons ok10 rfl (known_cons ok11 rfl (known_cons ok13 rfl (known_cons ok19 rfl known_nil))))) Try.func7 rfl rfl is7 fun ds hk hp => ?_
  split at hp
  · skip
    rename_i ax ay bx b' cx cy dx dy
    obtain ⟨d1, d2, d3, d4⟩ := hp
    refine h_call (c := c8) rfl trivial fun rs hk hr => ?_
    have hr : rs = [.b (decide (farP ax ay ∧ farP bx b' ∧ farP cx cy))] := hr
    subst hr
    refine h_callg (c := c8) rfl (fun _ => trivial) fun rs hk hr2 => ?_
    obtain ⟨i2, rfl⟩ := kinds1b hk
    have hr2 : decide (farP ax ay ∧ farP bx b' ∧ farP cx cy) = true → [DV.b i2] = [DV.b (decide (farP (IntKind.i64.wrap (ax + IntKind.i64.wrap (256 * IntKind.i64.wrap dx))) (IntKind.i64.wrap (ay + IntKind.i64.wrap (256 * IntKind.i64.wrap dy))) ∧ farP (IntKind.i64.wrap (bx + IntKind.i64.wrap (256 * IntKind.i64.wrap dx))) (IntKind.i64.wrap (b' + IntKind.i64.wrap (256 * IntKind.i64.wrap dy))) ∧ farP (IntKind.i64.wrap (cx + IntKind.i64.wrap (256 * IntKind.i64.wrap dx))) (IntKind.i64.wrap (cy + IntKind.i64.wrap (256 * IntKind.i64.wrap dy)))))] := hr2
    refine h_ite (fun g => ?_) (fun g => ?_)
    · refine h_call (c := c10) rfl trivial fun rs hk hr => ?_
      have hr : rs = [.b true] := hr
      subst hr
      rfl
    · have g : (!decide (farP ax ay ∧ farP bx b' ∧ farP cx cy) || !i2) = false := g
      simp only [Bool.or_eq_false_iff, Bool.not_eq_false', decide_eq_true_eq] at g
      obtain ⟨⟨ha, hb, hc⟩, rfl⟩ := g
      have hm : farP (IntKind.i64.wrap (ax + IntKind.i64.wrap (256 * IntKind.i64.wrap dx))) (IntKind.i64.wrap (ay + IntKind.i64.wrap (256 * IntKind.i64.wrap dy))) ∧ farP (IntKind.i64.wrap (bx + IntKind.i64.wrap (256 * IntKind.i64.wrap dx))) (IntKind.i64.wrap (b' + IntKind.i64.wrap (256 * IntKind.i64.wrap dy))) ∧ farP (IntKind.i64.wrap (cx + IntKind.i64.wrap (256 * IntKind.i64.wrap dx))) (IntKind.i64.wrap (cy + IntKind.i64.wrap (256 * IntKind.i64.wrap dy))) := by have := b_of (hr2 (by simp [ha, hb, hc])); simpa using this.symm
      clear hr2
      have ha' := ha
      have hb' := hb
      have hc' := hc
      unfold farP at ha' hb' hc'
      have e0 : (IntKind.i64.wrap (ax + IntKind.i64.wrap (256 * IntKind.i64.wrap dx))) = ax + 256 * dx := by rw [w64 (n := dx) (by omega) (by omega), w64 (n := 256 * dx) (by omega) (by omega), w64 (by omega) (by omega)]
      have e1 : (IntKind.i64.wrap (ay + IntKind.i64.wrap (256 * IntKind.i64.wrap dy))) = ay + 256 * dy := by rw [w64 (n := dy) (by omega) (by omega), w64 (n := 256 * dy) (by omega) (by omega), w64 (by omega) (by omega)]
      have e2 : (IntKind.i64.wrap (bx + IntKind.i64.wrap (256 * IntKind.i64.wrap dx))) = bx + 256 * dx := by rw [w64 (n := dx) (by omega) (by omega), w64 (n := 256 * dx) (by omega) (by omega), w64 (by omega) (by omega)]
      have e3 : (IntKind.i64.wrap (b' + IntKind.i64.wrap (256 * IntKind.i64.wrap dy))) = b' + 256 * dy := by rw [w64 (n := dy) (by omega) (by omega), w64 (n := 256 * dy) (by omega) (by omega), w64 (by omega) (by omega)]
      have e4 : (IntKind.i64.wrap (cx + IntKind.i64.wrap (256 * IntKind.i64.wrap dx))) = cx + 256 * dx := by rw [w64 (n := dx) (by omega) (by omega), w64 (n := 256 * dx) (by omega) (by omega), w64 (by omega) (by omega)]
      have e5 : (IntKind.i64.wrap (cy + IntKind.i64.wrap (256 * IntKind.i64.wrap dy))) = cy + 256 * dy := by rw [w64 (n := dy) (by omega) (by omega), w64 (n := 256 * dy) (by omega) (by omega), w64 (by omega) (by omega)]
      rw [e0, e1, e2, e3, e4, e5] at hm
      obtain ⟨ma, mb, mc⟩ := hm
      refine h_call (c := c11) rfl (trivial) fun rs hk hr => ?_
      have hr : rs = wl ax ay := hr
      subst hr
      refine h_call (c := c11) rfl (trivial) fun rs hk hr => ?_
      have hr : rs = wl bx b' := hr
      subst hr
      refine h_call (c := c11) rfl (trivial) fun rs hk hr => ?_
      have hr : rs = wl cx cy := hr
      subst hr
      have hl := spansL_len (ax := ax) (ay := ay) (bx := bx) (b' := b') (cx := cx) (cy := cy) (X0 := -9) (Y0 := -9) (X1 := 12) (Y1 := 12)
      have hrow : ∀ r ∈ spansL ax ay bx b' cx cy (-9) (-9) 12 12, _ := fun r h => span_row h
      have hmv := moved_list (ax := ax) (ay := ay) (bx := bx) (b' := b') (cx := cx) (cy := cy) d1 d2 d3 d4
      obtain ⟨p, hpE⟩ : ∃ p, spansL ax ay bx b' cx cy (-9) (-9) 12 12 = p := ⟨_, rfl⟩
      rw [hpE] at hl hrow hmv
      refine h_call (c := cSpans sg13) rfl (show farP ax ay ∧ farP bx b' ∧ farP cx cy from ⟨ha, hb, hc⟩) fun rs hk hr => ?_
      have hr : rs = [.l (spansL ax ay bx b' cx cy (-9) (-9) 12 12)] := hr
      rw [hpE] at hr
      subst hr
      refine h_call (c := c11) rfl trivial fun rs hk hr => ?_
      have hr : rs = wl (IntKind.i64.wrap (ax + IntKind.i64.wrap (256 * IntKind.i64.wrap dx))) (IntKind.i64.wrap (ay + IntKind.i64.wrap (256 * IntKind.i64.wrap dy))) := hr
      rw [e0, e1] at hr
      subst hr
      refine h_call (c := c11) rfl trivial fun rs hk hr => ?_
      have hr : rs = wl (IntKind.i64.wrap (bx + IntKind.i64.wrap (256 * IntKind.i64.wrap dx))) (IntKind.i64.wrap (b' + IntKind.i64.wrap (256 * IntKind.i64.wrap dy))) := hr
      rw [e2, e3] at hr
      subst hr
      refine h_call (c := c11) rfl trivial fun rs hk hr => ?_
      have hr : rs = wl (IntKind.i64.wrap (cx + IntKind.i64.wrap (256 * IntKind.i64.wrap dx))) (IntKind.i64.wrap (cy + IntKind.i64.wrap (256 * IntKind.i64.wrap dy))) := hr
      rw [e4, e5] at hr
      subst hr
      have f0 : IntKind.i64.wrap (IntKind.i64.wrap dx - 9) = dx - 9 := by rw [w64 (n := dx) (by omega) (by omega), w64 (by omega) (by omega)]
      have f1 : IntKind.i64.wrap (IntKind.i64.wrap dy - 9) = dy - 9 := by rw [w64 (n := dy) (by omega) (by omega), w64 (by omega) (by omega)]
      have f2 : IntKind.i64.wrap (IntKind.i64.wrap dx + 12) = dx + 12 := by rw [w64 (n := dx) (by omega) (by omega), w64 (by omega) (by omega)]
      have f3 : IntKind.i64.wrap (IntKind.i64.wrap dy + 12) = dy + 12 := by rw [w64 (n := dy) (by omega) (by omega), w64 (by omega) (by omega)]
      refine h_call (c := cSpans sg13) rfl (show farP (ax + 256 * dx) (ay + 256 * dy) ∧ farP (bx + 256 * dx) (b' + 256 * dy) ∧ farP (cx + 256 * dx) (cy + 256 * dy) from ⟨ma, mb, mc⟩) fun rs hk hr => ?_
      have hr : rs = [.l (spansL (ax + 256 * dx) (ay + 256 * dy) (bx + 256 * dx) (b' + 256 * dy) (cx + 256 * dx) (cy + 256 * dy) (IntKind.i64.wrap (IntKind.i64.wrap dx - 9)) (IntKind.i64.wrap (IntKind.i64.wrap dy - 9)) (IntKind.i64.wrap (IntKind.i64.wrap dx + 12)) (IntKind.i64.wrap (IntKind.i64.wrap dy + 12)))] := hr
      rw [f0, f1, f2, f3, hmv] at hr
      subst hr
      obtain ⟨q, hq⟩ : ∃ q, p.map (fun r => [r.getD 0 0 + dy, r.getD 1 0 + dx, r.getD 2 0 + dx]) = q := ⟨_, rfl⟩
      have hql : q.length = p.length := by rw [← hq, List.length_map]
      have hqi : ∀ i, i < p.length → q.getD i [] = [(p.getD i []).getD 0 0 + dy, (p.getD i []).getD 1 0 + dx, (p.getD i []).getD 2 0 + dx] := by
        intro i hi
        rw [← hq]
        simp [List.getD, List.getElem?_map, List.getElem?_eq_getElem hi]
      rw [hq]
      refine h_ite (fun g => ?_) (fun g => ?_)
      · simp [BE.den, IE.den, Env.sets, Env.set, DV.list, hql] at g
      · refine h_loop (fun ds => ∃ (r : Bool) (i : Nat), ds = [.b r, .i i] ∧ i ≤ p.length) (fun | [_, .i i] => ((p.length : Int) - i).toNat | _ => 0) ⟨false, 0, by simp [DE.den, BE.den, IE.den], by omega⟩ ?_
        intro ds _ ⟨r, i, hds, hi⟩
        subst hds
        refine h_ite (fun g1 => ?_) (fun g1 => ?_)
        · simp only [Env.sets, Env.set, BE.den, IE.den, DE.den, DV.int, DV.bool, DV.list, LOp.den, List.map_cons, List.map_nil, Nat.reduceEqDiff, ↓reduceIte, reduceCtorEq, Bool.and_eq_true, Bool.or_eq_true, Bool.not_eq_true', Bool.not_eq_false', Bool.and_eq_false_iff, Bool.or_eq_false_iff, decide_eq_true_eq, decide_eq_false_iff_not] at g1
          have hlt : i < p.length := by omega
          obtain ⟨y, f, t, hreq, y1, y2, b1, b2, b3, hft⟩ := hrow _ (mem_getD hlt)
          have hqe := hqi i hlt
          rw [hreq] at hqe
          have c0 : cellAt p (i : Int) 0 = y := by show (p.getD i []).getD 0 0 = y; rw [hreq]; rfl
          have c1' : cellAt p (i : Int) 1 = f := by show (p.getD i []).getD 1 0 = f; rw [hreq]; rfl
          have c2' : cellAt p (i : Int) 2 = t := by show (p.getD i []).getD 2 0 = t; rw [hreq]; rfl
          have k0 : cellAt q (i : Int) 0 = y + dy := by show (q.getD i []).getD 0 0 = y + dy; rw [hqe]; rfl
          have k1 : cellAt q (i : Int) 1 = f + dx := by show (q.getD i []).getD 1 0 = f + dx; rw [hqe]; rfl
          have k2 : cellAt q (i : Int) 2 = t + dx := by show (q.getD i []).getD 2 0 = t + dx; rw [hqe]; rfl
          have j0 : IntKind.i64.wrap (y + IntKind.i64.wrap dy) = y + dy := by rw [w64 (n := dy) (by omega) (by omega), w64 (by omega) (by omega)]
          have j1 : IntKind.i64.wrap (f + IntKind.i64.wrap dx) = f + dx := by rw [w64 (n := dx) (by omega) (by omega), w64 (by omega) (by omega)]
          have j2 : IntKind.i64.wrap (t + IntKind.i64.wrap dx) = t + dx := by rw [w64 (n := dx) (by omega) (by omega), w64 (by omega) (by omega)]
          have j3 : IntKind.i64.wrap (f - 1) = f - 1 := w64 (by omega) (by omega)
          refine h_need (by simp only [Env.sets, Env.set, BE.den, IE.den, DE.den, DV.int, DV.bool, DV.list, LOp.den, List.map_cons, List.map_nil, Nat.reduceEqDiff, ↓reduceIte, reduceCtorEq, Bool.and_eq_true, Bool.or_eq_true, Bool.not_eq_true', Bool.not_eq_false', Bool.and_eq_false_iff, Bool.or_eq_false_iff, decide_eq_true_eq, decide_eq_false_iff_not]; omega) (h_need (by simp only [Env.sets, Env.set, BE.den, IE.den, DE.den, DV.int, DV.bool, DV.list, LOp.den, List.map_cons, List.map_nil, Nat.reduceEqDiff, ↓reduceIte, reduceCtorEq, Bool.and_eq_true, Bool.or_eq_true, Bool.not_eq_true', Bool.not_eq_false', Bool.and_eq_false_iff, Bool.or_eq_false_iff, decide_eq_true_eq, decide_eq_false_iff_not]; omega) ?_)
          refine h_ite (fun g2 => ?_) (fun g2 => ?_)
          · exfalso
            simp only [Env.sets, Env.set, BE.den, IE.den, DE.den, DV.int, DV.bool, DV.list, LOp.den, List.map_cons, List.map_nil, Nat.reduceEqDiff, ↓reduceIte, reduceCtorEq, Bool.and_eq_true, Bool.or_eq_true, Bool.not_eq_true', Bool.not_eq_false', Bool.and_eq_false_iff, Bool.or_eq_false_iff, decide_eq_true_eq, decide_eq_false_iff_not, c0, c1', c2', k0, k1, k2, j0, j1, j2, decide_true, Bool.and_self, Bool.not_true, Bool.or_false, Bool.false_eq_true, or_false, not_true, and_self] at g2
            omega
          · clear g2
            refine h_loop (fun ds => ∃ (r : Bool) (k : Int), ds = [.b r, .i k] ∧ f - 1 ≤ k ∧ k ≤ t + 1) (fun | [_, .i k] => (t + 1 - k).toNat | _ => 0) ⟨r, f - 1, by simp [DE.den, BE.den, IE.den, Env.sets, Env.set, DV.int, DV.bool, DV.list, c1', j3], by omega, by omega⟩ ?_
            intro ds _ ⟨r', k, hds, hk1, hk2⟩
            subst hds
            refine h_ite (fun g3 => ?_) (fun g3 => ?_)
            · simp only [Env.sets, Env.set, BE.den, IE.den, DE.den, DV.int, DV.bool, DV.list, LOp.den, List.map_cons, List.map_nil, Nat.reduceEqDiff, ↓reduceIte, reduceCtorEq, Bool.and_eq_true, Bool.or_eq_true, Bool.not_eq_true', Bool.not_eq_false', Bool.and_eq_false_iff, Bool.or_eq_false_iff, decide_eq_true_eq, decide_eq_false_iff_not, c2'] at g3
              refine h_callg (c := c11) rfl (fun _ => trivial) fun rs hk hr1 => ?_
              obtain ⟨a0, a1, a2, a3, a4, a5, a6, rfl⟩ := kinds7 hk
              have hr1 : (decide (-9 ≤ k) && decide (k < 12)) = true → [DV.i a0, .i a1, .i a2, .i a3, .i a4, .i a5, .i a6] = wl ax ay := hr1
              refine h_callg (c := c11) rfl (fun _ => trivial) fun rs hk hr2 => ?_
              obtain ⟨u0, u1, u2, u3, u4, u5, u6, rfl⟩ := kinds7 hk
              have hr2 : (decide (-9 ≤ k) && decide (k < 12)) = true → [DV.i u0, .i u1, .i u2, .i u3, .i u4, .i u5, .i u6] = wl bx b' := hr2
              refine h_callg (c := c11) rfl (fun _ => trivial) fun rs hk hr3 => ?_
              obtain ⟨v0, v1, v2, v3, v4, v5, v6, rfl⟩ := kinds7 hk
              have hr3 : (decide (-9 ≤ k) && decide (k < 12)) = true → [DV.i v0, .i v1, .i v2, .i v3, .i v4, .i v5, .i v6] = wl cx cy := hr3
              have hpts : (decide (-9 ≤ k) && decide (k < 12)) = true → (a0 = ax ∧ a1 = ay) ∧ (u0 = bx ∧ u1 = b') ∧ (v0 = cx ∧ v1 = cy) := fun h => by
                have h1 := hr1 h
                have h2 := hr2 h
                have h3 := hr3 h
                simp only [wl, List.cons.injEq, DV.i.injEq] at h1 h2 h3
                exact ⟨⟨h1.1, h1.2.1⟩, ⟨h2.1, h2.2.1⟩, ⟨h3.1, h3.2.1⟩⟩
              refine h_callg (c := cHas sg19) rfl (fun g => ?_) fun rs hk hr4 => ?_
              · have g : (decide (-9 ≤ k) && decide (k < 12)) = true := g
                have gk : -9 ≤ k ∧ k < 12 := by simpa using g
                obtain ⟨⟨rfl, rfl⟩, ⟨rfl, rfl⟩, rfl, rfl⟩ := hpts g
                show farP a0 a1 ∧ farP u0 u1 ∧ farP v0 v1 ∧ nearP k (cellAt p (i : Int) 0)
                rw [c0]
                exact ⟨ha, hb, hc, by unfold nearP; omega⟩
              obtain ⟨i4, rfl⟩ := kinds1b hk
              have hr4 : (decide (-9 ≤ k) && decide (k < 12)) = true → [DV.b i4] = [DV.b (decide (hasP a0 a1 u0 u1 v0 v1 (256 * k + 128) (256 * cellAt p (i : Int) 0 + 128)))] := hr4
              rw [c0] at hr4
              refine h_ite (fun g4 => ?_) (fun g4 => ?_)
              · exfalso
                have g4 : ((decide (-9 ≤ k) && decide (k < 12)) && !(i4 == (decide (cellAt p (i : Int) 1 ≤ k) && decide (k < cellAt p (i : Int) 2)))) = true := g4
                rw [c1', c2', Bool.and_eq_true] at g4
                obtain ⟨g5, g6⟩ := g4
                have h4 := b_of (hr4 g5)
                have hk9 : -9 ≤ k ∧ k < 12 := by simpa using g5
                have hk := hft k
                obtain ⟨⟨q1, q2⟩, ⟨q3, q4⟩, q5, q6⟩ := hpts g5
                rw [q1, q2, q3, q4, q5, q6] at h4
                rw [h4, ← Bool.decide_and, eqb hk] at g6
                simp [hk9] at g6
              · have j4 : IntKind.i64.wrap (k + 1) = k + 1 := w64 (by omega) (by omega)
                refine h_again ⟨⟨r', k + 1, by simp [DE.den, BE.den, IE.den, Env.sets, Env.set, DV.int, DV.bool, j4], by omega, by omega⟩, ?_⟩
                simp only [Env.sets, Env.set, BE.den, IE.den, DE.den, DV.int, DV.bool, DV.list, LOp.den, List.map_cons, List.map_nil, Nat.reduceEqDiff, ↓reduceIte, reduceCtorEq, Bool.and_eq_true, Bool.or_eq_true, Bool.not_eq_true', Bool.not_eq_false', Bool.and_eq_false_iff, Bool.or_eq_false_iff, decide_eq_true_eq, decide_eq_false_iff_not, j4]
                omega
            · have j5 : IntKind.i64.wrap ((i : Int) + 1) = i + 1 := w64 (by omega) (by omega)
              refine h_againO (by decide) ⟨⟨r', i + 1, by simp [DE.den, BE.den, IE.den, Env.sets, Env.set, DV.int, DV.bool, j5], by omega⟩, ?_⟩
              simp only [Env.sets, Env.set, BE.den, IE.den, DE.den, DV.int, DV.bool, DV.list, LOp.den, List.map_cons, List.map_nil, Nat.reduceEqDiff, ↓reduceIte, reduceCtorEq, Bool.and_eq_true, Bool.or_eq_true, Bool.not_eq_true', Bool.not_eq_false', Bool.and_eq_false_iff, Bool.or_eq_false_iff, decide_eq_true_eq, decide_eq_false_iff_not, j5]
              omega
        · refine h_call (c := c10) rfl trivial fun rs hk hr => ?_
          have hr : rs = [.b true] := hr
          subst hr
          rfl
  · cases hp
theorem pre7 (dvs : List DV) (hh : dvsIn (cts sg7.args) dvs) : c7.pre dvs := by
  simp only [sg7, cts, List.flatMap_cons, List.flatMap_nil, VT.cts, List.append_nil, List.cons_append, List.nil_append] at hh
  match dvs, hh with
  | [.i ax, .i ay, .i bx, .i b', .i cx, .i cy, .i dx, .i dy], hh => 
    obtain ⟨_, _, _, _, _, _, h1, h2, _⟩ := hh
    exact (show -128 ≤ dx ∧ dx ≤ 127 ∧ -128 ≤ dy ∧ dy ≤ 127 from ⟨h1.1, h1.2, h2.1, h2.2⟩)

end Go.Proofs.Ytmnnaofonefobaa.Fns
