/- Layer 6: the law StackTells, as a function. -/
import Derived.Test.YtnpmcfjagijkgaaFns3
set_option linter.unusedVariables false
set_option linter.unusedSimpArgs false
set_option maxRecDepth 10000
namespace Go.Proofs.Ytnpmcfjagijkgaa.Fns
open Go.Sx Go.Proofs.Ytnpmcfjagijkgaa.Trees

theorem kinds17 {k0 k1 k2 k3 k4 k5 k6 k7 k8 k9 k10 k11 k12 k13 k14 k15 k16 : IntKind} {rs : List DV} (h : kinds [.c (.i k0), .c (.i k1), .c (.i k2), .c (.i k3), .c (.i k4), .c (.i k5), .c (.i k6), .c (.i k7), .c (.i k8), .c (.i k9), .c (.i k10), .c (.i k11), .c (.i k12), .c (.i k13), .c (.i k14), .c (.i k15), .c (.i k16)] rs = true) : ∃ a0 a1 a2 a3 a4 a5 a6 a7 a8 a9 a10 a11 a12 a13 a14 a15 a16, rs = [.i a0, .i a1, .i a2, .i a3, .i a4, .i a5, .i a6, .i a7, .i a8, .i a9, .i a10, .i a11, .i a12, .i a13, .i a14, .i a15, .i a16] := by
  match rs, h with
  | [.i a0, .i a1, .i a2, .i a3, .i a4, .i a5, .i a6, .i a7, .i a8, .i a9, .i a10, .i a11, .i a12, .i a13, .i a14, .i a15, .i a16], _ => exact ⟨a0, a1, a2, a3, a4, a5, a6, a7, a8, a9, a10, a11, a12, a13, a14, a15, a16, rfl⟩
/-- What a call makes of small stacks is small. -/
def smallF (l : List DV) : Prop := ∀ m a b e, l = [.i m, .l a, .l b, .i e] → a.length ≤ 1000000000 ∧ b.length ≤ 1000000000
theorem small_bad {e : Int} : smallF (badS e) := by
  intro m a b e' h
  simp only [badS, List.cons.injEq, DV.l.injEq] at h
  obtain ⟨_, rfl, rfl, _⟩ := h
  simp
theorem small_mk {m e : Int} {a b : Rows} (ha : a.length ≤ 1000000000) (hb : b.length ≤ 1000000000) : smallF [.i m, .l a, .l b, .i e] := by
  intro m' a' b' e' h
  simp only [List.cons.injEq, DV.l.injEq] at h
  obtain ⟨_, rfl, rfl, _⟩ := h
  exact ⟨ha, hb⟩
theorem small_choose {m k : Int} {a b : Rows} : smallF (chooseF m a b k) := by
  unfold chooseF
  split
  · rename_i h; have := rightS_len h.1; exact small_mk (by omega) (by omega)
  · exact small_bad
theorem small_load {m : Int} {a b : Rows} {x : List Int} : smallF (loadF m a b x) := by
  unfold loadF
  split
  · rename_i h; have := rightS_len h.1
    split <;> exact small_mk (by first | omega | (unfold setLast; rw [List.length_modify]; omega)) (by first | omega | (unfold setLast; rw [List.length_modify]; omega))
  · exact small_bad
theorem small_mult {m : Int} {a b : Rows} {x : List Int} : smallF (multF m a b x) := by
  unfold multF
  split
  · split
    · exact small_load
    · exact small_bad
  · exact small_bad
theorem small_push {m : Int} {a b : Rows} : smallF (pushF m a b) := by
  unfold pushF
  split
  · rename_i h; have := rightS_len h
    split
    · exact small_bad
    · split <;> exact small_mk (by first | omega | (rw [List.length_append, List.length_singleton]; omega)) (by first | omega | (rw [List.length_append, List.length_singleton]; omega))
  · exact small_bad
theorem small_pop {m : Int} {a b : Rows} : smallF (popF m a b) := by
  unfold popF
  split
  · rename_i h; have := rightS_len h
    split
    · exact small_bad
    · split <;> exact small_mk (by first | omega | (unfold cutLast; rw [List.length_take]; omega)) (by first | omega | (unfold cutLast; rw [List.length_take]; omega))
  · exact small_bad
def c4 : Contract := CFn sg4 (fun | [.i m, .l a, .l b, .i x0, .i x1, .i x2, .i x3, .i x4, .i x5, .i x6, .i x7, .i x8, .i x9, .i x10, .i x11, .i x12, .i x13, .i x14, .i x15, .i k] => True | _ => False) (fun _ => [.b true])
theorem ok4 : ContractOk Try.prog 4 c4 := by
  refine contract_of (Γ := knownOf [(7, c7), (8, c8), (14, cTop sg14), (15, cTop sg15), (16, cChoose sg16), (17, cChoose sg17), (13, cSame), (10, cLoad sg10), (18, cLoad sg18), (11, cMult sg11), (19, cMult sg19), (9, cPush sg9), (20, cPush sg20), (12, cPop sg12), (21, cPop sg21), (22, cRightS sg22), (23, cRightS sg23), (24, cNew sg24), (25, cNew sg25)]) (known_cons ok7 rfl (known_cons ok8 rfl (known_cons ok14 rfl (known_cons ok15 rfl (known_cons ok16 rfl (known_cons ok17 rfl (known_cons ok13 rfl (known_cons ok10 rfl (known_cons ok18 rfl (known_cons ok11 rfl (known_cons ok19 rfl (known_cons ok9 rfl (known_cons ok20 rfl (known_cons ok12 rfl (known_cons ok21 rfl (known_cons ok22 rfl (known_cons ok23 rfl (known_cons ok24 rfl (known_cons ok25 rfl known_nil))))))))))))))))))) Try.func4 rfl rfl is4 fun ds hk hp => ?_
  split at hp
  · skip
    rename_i m a b x0 x1 x2 x3 x4 x5 x6 x7 x8 x9 x10 x11 x12 x13 x14 x15 k
    refine h_call (c := c7) rfl trivial fun rs hk hr => ?_
    have hr : rs = [.b (decide (a.length ≤ 12 ∧ b.length ≤ 12))] := hr
    subst hr
    refine h_ite (fun _ => ?_) (fun g => ?_)
    · refine h_call (c := c8) rfl trivial fun rs hk hr => ?_
      have hr : rs = [.b true] := hr
      subst hr
      rfl
    have g : (!decide (a.length ≤ 12 ∧ b.length ≤ 12)) = false := g
    rw [Bool.not_eq_false', decide_eq_true_eq] at g
    refine h_call (c := cTop sg14) rfl trivial fun rs hk hr => ?_
    have hr : rs = topF m a b k := hr
    obtain ⟨t0, t1, t2, t3, t4, t5, t6, t7, t8, t9, t10, t11, t12, t13, t14, t15, t16, rfl⟩ := kinds17 hk
    refine h_call (c := cTop sg15) rfl trivial fun rs hk hr2 => ?_
    have hr2 : rs = topF m a b k := hr2
    rw [← hr] at hr2
    subst hr2
    refine h_call (c := cChoose sg16) rfl trivial fun rs hk hr => ?_
    have hr : rs = chooseF m a b k := hr
    obtain ⟨cm, ca, cb, ce, rfl⟩ := kinds4 hk
    refine h_call (c := cChoose sg17) rfl trivial fun rs hk hr2 => ?_
    have hr2 : rs = chooseF m a b k := hr2
    rw [← hr] at hr2
    subst hr2
    have cs := small_choose _ _ _ _ hr.symm
    refine h_cally (c := cSame) rfl (by simp [Env.sets, Env.set, BE.den, IE.den, DV.bool, DV.int]) (show (cm = cm ∧ ca = ca ∧ cb = cb) ∧ _ from ⟨⟨rfl, rfl, rfl⟩, cs⟩) fun rs hk hr => ?_
    have hr : rs = [.b true] := hr
    subst hr
    refine h_ite (fun g => absurd g (by simp [Env.sets, Env.set, BE.den, IE.den, DV.bool, DV.int])) (fun _ => ?_)
    refine h_call (c := cLoad sg10) rfl trivial fun rs hk hr => ?_
    have hr : rs = loadF m a b [x0, x1, x2, x3, x4, x5, x6, x7, x8, x9, x10, x11, x12, x13, x14, x15] := hr
    obtain ⟨lm, la, lb, le, rfl⟩ := kinds4 hk
    refine h_call (c := cLoad sg18) rfl trivial fun rs hk hr2 => ?_
    have hr2 : rs = loadF m a b [x0, x1, x2, x3, x4, x5, x6, x7, x8, x9, x10, x11, x12, x13, x14, x15] := hr2
    rw [← hr] at hr2
    subst hr2
    have ls := small_load _ _ _ _ hr.symm
    refine h_call (c := cSame) rfl (show (lm = lm ∧ la = la ∧ lb = lb) ∧ _ from ⟨⟨rfl, rfl, rfl⟩, ls⟩) fun rs hk hr => ?_
    have hr : rs = [.b true] := hr
    subst hr
    refine h_ite (fun g => absurd g (by simp [Env.sets, Env.set, BE.den, IE.den, DV.bool, DV.int])) (fun _ => ?_)
    refine h_call (c := cMult sg11) rfl trivial fun rs hk hr => ?_
    have hr : rs = multF m a b [x0, x1, x2, x3, x4, x5, x6, x7, x8, x9, x10, x11, x12, x13, x14, x15] := hr
    obtain ⟨xm, xa, xb, xe, rfl⟩ := kinds4 hk
    refine h_call (c := cMult sg19) rfl trivial fun rs hk hr2 => ?_
    have hr2 : rs = multF m a b [x0, x1, x2, x3, x4, x5, x6, x7, x8, x9, x10, x11, x12, x13, x14, x15] := hr2
    rw [← hr] at hr2
    subst hr2
    have xs := small_mult _ _ _ _ hr.symm
    refine h_call (c := cSame) rfl (show (xm = xm ∧ xa = xa ∧ xb = xb) ∧ _ from ⟨⟨rfl, rfl, rfl⟩, xs⟩) fun rs hk hr => ?_
    have hr : rs = [.b true] := hr
    subst hr
    refine h_ite (fun g => absurd g (by simp [Env.sets, Env.set, BE.den, IE.den, DV.bool, DV.int])) (fun _ => ?_)
    refine h_call (c := cPush sg9) rfl trivial fun rs hk hr => ?_
    have hr : rs = pushF m a b := hr
    obtain ⟨pm, pa, pb, pe, rfl⟩ := kinds4 hk
    refine h_call (c := cPush sg20) rfl trivial fun rs hk hr2 => ?_
    have hr2 : rs = pushF m a b := hr2
    rw [← hr] at hr2
    subst hr2
    have ps := small_push _ _ _ _ hr.symm
    refine h_call (c := cSame) rfl (show (pm = pm ∧ pa = pa ∧ pb = pb) ∧ _ from ⟨⟨rfl, rfl, rfl⟩, ps⟩) fun rs hk hr => ?_
    have hr : rs = [.b true] := hr
    subst hr
    refine h_ite (fun g => absurd g (by simp [Env.sets, Env.set, BE.den, IE.den, DV.bool, DV.int])) (fun _ => ?_)
    refine h_call (c := cPop sg12) rfl trivial fun rs hk hr => ?_
    have hr : rs = popF m a b := hr
    obtain ⟨qm, qa, qb, qe, rfl⟩ := kinds4 hk
    refine h_call (c := cPop sg21) rfl trivial fun rs hk hr2 => ?_
    have hr2 : rs = popF m a b := hr2
    rw [← hr] at hr2
    subst hr2
    have qs := small_pop _ _ _ _ hr.symm
    refine h_call (c := c8) rfl trivial fun rs hk hr => ?_
    have hr : rs = [.b true] := hr
    subst hr
    refine h_cally (c := cSame) rfl (by rfl) (show (qm = qm ∧ qa = qa ∧ qb = qb) ∧ _ from ⟨⟨rfl, rfl, rfl⟩, qs⟩) fun rs hk hr => ?_
    have hr : rs = [.b true] := hr
    subst hr
    refine h_cally (c := cRightS sg22) rfl (by simp [Env.sets, Env.set, BE.den, IE.den, DV.bool, DV.int]) trivial fun rs hk hr => ?_
    have hr : rs = [.b (decide (rightS m a b))] := hr
    subst hr
    refine h_cally (c := cRightS sg23) rfl (by simp [Env.sets, Env.set, BE.den, IE.den, DV.bool, DV.int]) trivial fun rs hk hr => ?_
    have hr : rs = [.b (decide (rightS m a b))] := hr
    subst hr
    refine h_cally (c := cNew sg24) rfl (by simp [Env.sets, Env.set, BE.den, IE.den, DV.bool, DV.int]) trivial fun rs hk hr => ?_
    have hr : rs = [.i 0, .l [unitL], .l [unitL]] := hr
    subst hr
    refine h_cally (c := cNew sg25) rfl (by simp [Env.sets, Env.set, BE.den, IE.den, DV.bool, DV.int]) trivial fun rs hk hr => ?_
    have hr : rs = [.i 0, .l [unitL], .l [unitL]] := hr
    subst hr
    refine h_cally (c := cSame) rfl (by simp [Env.sets, Env.set, BE.den, IE.den, DV.bool, DV.int]) (show ((0 : Int) = 0 ∧ [unitL] = [unitL] ∧ [unitL] = [unitL]) ∧ [unitL].length ≤ 1000000000 ∧ [unitL].length ≤ 1000000000 by simp) fun rs hk hr => ?_
    have hr : rs = [.b true] := hr
    subst hr
    simp [Tree.holds, DE.den, BE.den, IE.den, Env.sets, Env.set, DV.bool, DV.int]
  · cases hp
theorem pre4 (dvs : List DV) (hh : dvsIn (cts sg4.args) dvs) : c4.pre dvs := by
  simp only [sg4, cts, List.flatMap_cons, List.flatMap_nil, VT.cts, List.append_nil, List.cons_append, List.nil_append] at hh
  match dvs, hh with
  | [.i m, .l a, .l b, .i x0, .i x1, .i x2, .i x3, .i x4, .i x5, .i x6, .i x7, .i x8, .i x9, .i x10, .i x11, .i x12, .i x13, .i x14, .i x15, .i k], hh => trivial

end Go.Proofs.Ytnpmcfjagijkgaa.Fns
