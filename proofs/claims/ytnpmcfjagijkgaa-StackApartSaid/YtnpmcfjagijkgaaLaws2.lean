/- Layer 6: the laws StackBack, StackPlays, StackApart, as functions. -/
import Derived.Test.YtnpmcfjagijkgaaLaws
set_option linter.unusedVariables false
set_option linter.unusedSimpArgs false
set_option maxRecDepth 10000
namespace Go.Proofs.Ytnpmcfjagijkgaa.Fns
open Go.Sx Go.Proofs.Ytnpmcfjagijkgaa.Trees

theorem row_self (c : Rows) {x : List Int} (h : x.length = 16) : rowOf (c ++ [x]) (c.length : Int) = x := by
  have e : ∀ k, cellAt (c ++ [x]) (c.length : Int) k = x.getD k 0 := fun k => by
    unfold cellAt
    congr 1
    simp [List.getD]
  unfold rowOf
  simp only [e]
  match x, h with
  | [x0, x1, x2, x3, x4, x5, x6, x7, x8, x9, x10, x11, x12, x13, x14, x15], _ => rfl
theorem row_left {c : Rows} {x : List Int} {j : Nat} (h : j < c.length) : rowOf (c ++ [x]) (j : Int) = rowOf c (j : Int) := by
  have e : ∀ k, cellAt (c ++ [x]) (j : Int) k = cellAt c (j : Int) k := fun k => by
    unfold cellAt
    congr 1
    simp [List.getD, List.getElem?_append_left h]
  unfold rowOf
  simp only [e]
theorem row_len {c : Rows} {i : Int} : (rowOf c i).length = 16 := rfl
theorem ends {b : Rows} (h : 1 ≤ b.length) : ∃ c r, b = c ++ [r] := by
  rcases List.eq_nil_or_concat b with rfl | ⟨c, r, rfl⟩
  · simp at h
  · exact ⟨c, r, by simp⟩
theorem setLast_app {c : Rows} {r x : List Int} : setLast (c ++ [r]) x = c ++ [x] := by
  unfold setLast
  have : (((c ++ [r]).length : Int) - 1).toNat = c.length := by simp
  rw [this]
  apply List.ext_getElem?
  intro i
  rw [List.getElem?_modify]
  rcases Nat.lt_trichotomy i c.length with h | h | h
  · rw [List.getElem?_append_left h, List.getElem?_append_left h]
    simp [Nat.ne_of_gt h]
  · subst h; simp
  · rw [List.getElem?_eq_none (by simp; omega), List.getElem?_eq_none (by simp; omega)]; rfl
theorem cutLast_app {c : Rows} {r : List Int} : cutLast (c ++ [r]) = c := by
  unfold cutLast
  have : (((c ++ [r]).length : Int) - 1).toNat = c.length := by simp
  rw [this]
  simp
theorem lastOf_app {c : Rows} {x : List Int} (h : x.length = 16) : lastOf (c ++ [x]) = x := by
  unfold lastOf
  have : ((c ++ [x]).length : Int) - 1 = (c.length : Int) := by simp
  rw [this, row_self c h]
theorem lastOf_row {c : Rows} : lastOf c = rowOf c ((c.length : Int) - 1) := rfl
theorem rightL_app {c : Rows} {x : List Int} (h : x.length = 16) : rightL (c ++ [x]) ↔ (c.length ≤ 7 ∧ (∀ j : Nat, j < c.length → rightP (rowOf c (j : Int))) ∧ rightP x) := by
  unfold rightL
  simp only [List.length_append, List.length_singleton]
  constructor
  · rintro ⟨_, h2, h3⟩
    refine ⟨by omega, fun j hj => ?_, ?_⟩
    · have := h3 j (by omega)
      rwa [row_left hj] at this
    · have := h3 c.length (by omega)
      rwa [row_self c h] at this
  · rintro ⟨h1, h2, h3⟩
    refine ⟨by omega, by omega, fun j hj => ?_⟩
    rcases Nat.lt_or_ge j c.length with hc | hc
    · rw [row_left hc]; exact h2 j hc
    · have : j = c.length := by omega
      subst this
      rw [row_self c h]; exact h3
theorem rightL_set {a : Rows} {x : List Int} (h : x.length = 16) (ha : rightL a) (hx : rightP x) : rightL (setLast a x) := by
  obtain ⟨c, r, rfl⟩ := ends ha.1
  rw [setLast_app, rightL_app h]
  have hl := ha.2.1
  simp only [List.length_append, List.length_singleton] at hl
  refine ⟨by omega, fun j hj => ?_, hx⟩
  have := ha.2.2 j (by simp; omega)
  rwa [row_left hj] at this
theorem rightP_last {a : Rows} (ha : rightL a) : rightP (lastOf a) := by
  have := ha.2.2 (a.length - 1) (by have := ha.1; omega)
  have e : ((a.length - 1 : Nat) : Int) = (a.length : Int) - 1 := by have := ha.1; omega
  rwa [e] at this
theorem rightL_push {a : Rows} (ha : rightL a) (hl : a.length ≠ 8) : rightL (a ++ [lastOf a]) := by
  rw [rightL_app rfl]
  have := ha.2.1
  exact ⟨by omega, ha.2.2, rightP_last ha⟩
theorem rightL_cut {a : Rows} (ha : rightL a) (hl : a.length ≠ 1) : rightL (cutLast a) := by
  obtain ⟨c, r, rfl⟩ := ends ha.1
  rw [cutLast_app]
  have h1 := ha.1
  have h2 := ha.2.1
  simp only [List.length_append, List.length_singleton] at h1 h2 hl
  refine ⟨by omega, by omega, fun j hj => ?_⟩
  have := ha.2.2 j (by simp; omega)
  rwa [row_left hj] at this
/-- What a call that is not refused makes. -/
theorem load_ok {m : Int} {a b c d : Rows} {x : List Int} {p e : Int} (hx : x.length = 16) (h : [DV.i p, .l c, .l d, .i e] = loadF m a b x) (he : e = 0) : rightP x ∧ rightS m a b ∧ rightS m c d ∧ p = m ∧ ((m = 0 ∧ c = setLast a x ∧ d = b) ∨ (m = 1 ∧ c = a ∧ d = setLast b x)) := by
  subst he
  unfold loadF at h
  split at h
  · rename_i hc
    rcases hc.1.1 with hm | hm
    · rw [if_pos hm] at h
      simp only [List.cons.injEq, DV.i.injEq, DV.l.injEq, and_true] at h
      obtain ⟨rfl, rfl, rfl⟩ := h
      subst hm
      exact ⟨hc.2, hc.1, ⟨.inl rfl, rightL_set hx hc.1.2.1 hc.2, hc.1.2.2⟩, rfl, .inl ⟨rfl, rfl, rfl⟩⟩
    · rw [if_neg (by omega)] at h
      simp only [List.cons.injEq, DV.i.injEq, DV.l.injEq, and_true] at h
      obtain ⟨rfl, rfl, rfl⟩ := h
      subst hm
      exact ⟨hc.2, hc.1, ⟨.inr rfl, hc.1.2.1, rightL_set hx hc.1.2.2 hc.2⟩, rfl, .inr ⟨rfl, rfl, rfl⟩⟩
  · simp [badS] at h
theorem mulE_zero {A B : List Int} (h : mulE A B = 0) : rightP A ∧ rightP B ∧ rightP (prodL A B) := by
  unfold mulE at h
  split at h
  · split at h
    · rename_i h1 h2; exact ⟨h1.1, h1.2, h2⟩
    · omega
  · omega
theorem mult_ok {m : Int} {a b c d : Rows} {x : List Int} {p e : Int} (h : [DV.i p, .l c, .l d, .i e] = multF m a b x) (he : e = 0) : mulE (lastOf (cur m a b)) x = 0 ∧ rightS m a b ∧ rightS m c d ∧ p = m ∧ ((m = 0 ∧ c = setLast a (mulL (lastOf a) x) ∧ d = b) ∨ (m = 1 ∧ c = a ∧ d = setLast b (mulL (lastOf b) x))) := by
  unfold multF at h
  split at h
  · split at h
    · rename_i h1 h2
      obtain ⟨g1, g2, g3, g4, g5⟩ := load_ok (x := mulL (lastOf (cur m a b)) x) rfl h he
      refine ⟨h2, g2, g3, g4, ?_⟩
      rcases g5 with ⟨hm, h3, h4⟩ | ⟨hm, h3, h4⟩
      · subst hm; exact .inl ⟨rfl, h3, h4⟩
      · subst hm; exact .inr ⟨rfl, h3, h4⟩
    · rename_i h1 h2
      subst he
      simp only [badS, List.cons.injEq, DV.i.injEq, and_true] at h
      exact absurd h.2.2.2.symm h2
  · subst he
    simp [badS] at h
theorem push_ok {m : Int} {a b c d : Rows} {p e : Int} (h : [DV.i p, .l c, .l d, .i e] = pushF m a b) (he : e = 0) : rightS m a b ∧ rightS m c d ∧ p = m ∧ ((m = 0 ∧ c = a ++ [lastOf a] ∧ d = b) ∨ (m = 1 ∧ c = a ∧ d = b ++ [lastOf b])) := by
  subst he
  unfold pushF at h
  split at h
  · rename_i hR
    split at h
    · simp [badS] at h
    · rename_i h8
      rcases hR.1 with hm | hm
      · rw [if_pos hm] at h
        simp only [List.cons.injEq, DV.i.injEq, DV.l.injEq, and_true] at h
        obtain ⟨rfl, rfl, rfl⟩ := h
        subst hm
        exact ⟨hR, ⟨.inl rfl, rightL_push hR.2.1 h8, hR.2.2⟩, rfl, .inl ⟨rfl, rfl, rfl⟩⟩
      · rw [if_neg (by omega)] at h
        simp only [List.cons.injEq, DV.i.injEq, DV.l.injEq, and_true] at h
        obtain ⟨rfl, rfl, rfl⟩ := h
        subst hm
        exact ⟨hR, ⟨.inr rfl, hR.2.1, rightL_push hR.2.2 h8⟩, rfl, .inr ⟨rfl, rfl, rfl⟩⟩
  · simp [badS] at h
theorem push_no {m : Int} {a b c d : Rows} {p e : Int} (h : [DV.i p, .l c, .l d, .i e] = pushF m a b) (he : e ≠ 0) : c = [] ∧ d = [] := by
  unfold pushF at h
  split at h
  · split at h
    · simp only [badS, List.cons.injEq, DV.l.injEq, and_true] at h
      exact ⟨h.2.1, h.2.2.1⟩
    · split at h
      · simp only [List.cons.injEq, DV.i.injEq, and_true] at h; exact absurd h.2.2.2 he
      · simp only [List.cons.injEq, DV.i.injEq, and_true] at h; exact absurd h.2.2.2 he
  · simp only [badS, List.cons.injEq, DV.l.injEq, and_true] at h
    exact ⟨h.2.1, h.2.2.1⟩
theorem pop_ok {m : Int} {a b c d : Rows} {p e : Int} (h : [DV.i p, .l c, .l d, .i e] = popF m a b) (he : e = 0) : rightS m a b ∧ rightS m c d ∧ p = m ∧ ((m = 0 ∧ c = cutLast a ∧ d = b) ∨ (m = 1 ∧ c = a ∧ d = cutLast b)) := by
  subst he
  unfold popF at h
  split at h
  · rename_i hR
    split at h
    · simp [badS] at h
    · rename_i h8
      rcases hR.1 with hm | hm
      · rw [if_pos hm] at h
        simp only [List.cons.injEq, DV.i.injEq, DV.l.injEq, and_true] at h
        obtain ⟨rfl, rfl, rfl⟩ := h
        subst hm
        exact ⟨hR, ⟨.inl rfl, rightL_cut hR.2.1 h8, hR.2.2⟩, rfl, .inl ⟨rfl, rfl, rfl⟩⟩
      · rw [if_neg (by omega)] at h
        simp only [List.cons.injEq, DV.i.injEq, DV.l.injEq, and_true] at h
        obtain ⟨rfl, rfl, rfl⟩ := h
        subst hm
        exact ⟨hR, ⟨.inr rfl, hR.2.1, rightL_cut hR.2.2 h8⟩, rfl, .inr ⟨rfl, rfl, rfl⟩⟩
  · simp [badS] at h
/-- The stacks behind a push: all but the top is as it was. -/
def backI (m : Int) (a b : Rows) (m' : Int) (a' b' : Rows) : Prop := m' = m ∧ rightS m a' b' ∧ ((m = 0 ∧ b' = b ∧ ∃ r, a' = a ++ [r]) ∨ (m = 1 ∧ a' = a ∧ ∃ r, b' = b ++ [r])) ∧ 1 ≤ a.length ∧ 1 ≤ b.length
theorem back_set {m : Int} {a b m' a' b' p c d} {x : List Int} (hI : backI m a b m' a' b') (hr : rightS m' c d) (hp : p = m') (h : (m' = 0 ∧ c = setLast a' x ∧ d = b') ∨ (m' = 1 ∧ c = a' ∧ d = setLast b' x)) : backI m a b p c d := by
  obtain ⟨rfl, hR, hc, hl⟩ := hI
  subst hp
  refine ⟨rfl, hr, ?_, hl⟩
  rcases hc with ⟨hm, rfl, r, rfl⟩ | ⟨hm, rfl, r, rfl⟩ <;> rcases h with ⟨hm', rfl, rfl⟩ | ⟨hm', rfl, rfl⟩
  · exact .inl ⟨hm, rfl, x, setLast_app⟩
  · omega
  · omega
  · exact .inr ⟨hm, rfl, x, setLast_app⟩
theorem back_pop {m : Int} {a b m' a' b'} (hI : backI m a b m' a' b') : popF m' a' b' = [.i m, .l a, .l b, .i 0] := by
  obtain ⟨rfl, hR, hc, hl1, hl2⟩ := hI
  unfold popF
  rw [if_pos hR]
  rcases hc with ⟨hm, rfl, r, rfl⟩ | ⟨hm, rfl, r, rfl⟩
  · subst hm
    rw [if_neg (by show ¬ (a ++ [r]).length = 1; simp; intro h; simp [h] at hl1), if_pos rfl, cutLast_app]
  · subst hm
    rw [if_neg (by show ¬ (b ++ [r]).length = 1; simp; intro h; simp [h] at hl2), if_neg (by omega), cutLast_app]
def c3 : Contract := CFn sg3 (fun | [.i m, .l a, .l b, .l l] => True | _ => False) (fun _ => [.b true])
theorem ok3 : ContractOk Try.prog 3 c3 := by
  refine contract_of (Γ := knownOf [(7, c7), (8, c8), (9, cPush sg9), (10, cLoad sg10), (11, cMult sg11), (12, cPop sg12), (13, cSame)]) (known_cons ok7 rfl (known_cons ok8 rfl (known_cons ok9 rfl (known_cons ok10 rfl (known_cons ok11 rfl (known_cons ok12 rfl (known_cons ok13 rfl known_nil))))))) Try.func3 rfl rfl is3 fun ds hk hp => ?_
  split at hp
  · skip
    rename_i m a b l
    refine h_call (c := c7) rfl trivial fun rs hk hr => ?_
    have hr : rs = [.b (decide (a.length ≤ 12 ∧ b.length ≤ 12))] := hr
    subst hr
    refine h_ite (fun _ => ?_) (fun g => ?_)
    · refine h_call (c := c8) rfl trivial fun rs hk hr => ?_
      have hr : rs = [.b true] := hr
      subst hr
      rfl
    have g : (!decide (a.length ≤ 12 ∧ b.length ≤ 12) || decide (20 < (l.length : Int))) = false := g
    simp only [Env.sets, Env.set, BE.den, IE.den, DE.den, DV.int, DV.bool, DV.list, LOp.den, List.map_cons, List.map_nil, Nat.reduceEqDiff, ↓reduceIte, reduceCtorEq, Bool.and_eq_true, Bool.or_eq_true, Bool.not_eq_true', Bool.not_eq_false', Bool.and_eq_false_iff, Bool.or_eq_false_iff, decide_eq_true_eq, decide_eq_false_iff_not] at g
    obtain ⟨⟨ga, gb⟩, gl⟩ := g
    refine h_call (c := cPush sg9) rfl trivial fun rs hk hr => ?_
    have hr : rs = pushF m a b := hr
    obtain ⟨m', a', b', e', rfl⟩ := kinds4 hk
    refine h_ite (fun g => ?_) (fun g => ?_)
    · have g : (!decide (e' = 0)) = true := g
      rw [Bool.not_eq_true', decide_eq_false_iff_not] at g
      obtain ⟨rfl, rfl⟩ := push_no hr g
      refine h_call (c := c8) rfl trivial fun rs hk hr => ?_
      have hr : rs = [.b true] := hr
      subst hr
      refine h_need rfl ?_
      rfl
    have g : (!decide (e' = 0)) = false := g
    rw [Bool.not_eq_false', decide_eq_true_eq] at g
    have hI : backI m a b m' a' b' := by
      obtain ⟨h1, h2, rfl, h3⟩ := push_ok hr g
      have := rightS_len h1
      refine ⟨rfl, h2, ?_, by omega, by omega⟩
      rcases h3 with ⟨hm, rfl, rfl⟩ | ⟨hm, rfl, rfl⟩
      · exact .inl ⟨hm, rfl, _, rfl⟩
      · exact .inr ⟨hm, rfl, _, rfl⟩
    clear hr g hk
    refine h_loop (fun ds => ∃ (i : Nat) (m' : Int) (a' b' : Rows), ds = [.i i, .i m', .l a', .l b'] ∧ i ≤ l.length ∧ backI m a b m' a' b') (fun | .i i :: _ => ((l.length : Int) - i).toNat | _ => 0) ⟨0, m', a', b', rfl, by omega, hI⟩ ?_
    clear hI
    intro ds _ ⟨i, m', a', b', hds, hi, hI⟩
    subst hds
    refine h_ite (fun hc => ?_) (fun hc => ?_)
    · have hc : decide ((i : Int) < (l.length : Int)) = true := hc
      simp only [Env.sets, Env.set, BE.den, IE.den, DE.den, DV.int, DV.bool, DV.list, LOp.den, List.map_cons, List.map_nil, Nat.reduceEqDiff, ↓reduceIte, reduceCtorEq, Bool.and_eq_true, Bool.or_eq_true, Bool.not_eq_true', Bool.not_eq_false', Bool.and_eq_false_iff, Bool.or_eq_false_iff, decide_eq_true_eq, decide_eq_false_iff_not] at hc
      refine h_need (by simp only [Env.sets, Env.set, BE.den, IE.den, DE.den, DV.int, DV.bool, DV.list, LOp.den, List.map_cons, List.map_nil, Nat.reduceEqDiff, ↓reduceIte, reduceCtorEq, Bool.and_eq_true, Bool.or_eq_true, Bool.not_eq_true', Bool.not_eq_false', Bool.and_eq_false_iff, Bool.or_eq_false_iff, decide_eq_true_eq, decide_eq_false_iff_not]; omega) ?_
      refine h_call (c := cLoad sg10) rfl trivial fun rs hk hr => ?_
      have hr : rs = loadF m' a' b' (rowOf l (i : Int)) := hr
      obtain ⟨m1, a1, b1, e1, rfl⟩ := kinds4 hk
      refine h_ite (fun _ => ?_) (fun _ => ?_)
      · iterate 2 refine h_need (by simp only [Env.sets, Env.set, BE.den, IE.den, DE.den, DV.int, DV.bool, DV.list, LOp.den, List.map_cons, List.map_nil, Nat.reduceEqDiff, ↓reduceIte, reduceCtorEq, Bool.and_eq_true, Bool.or_eq_true, Bool.not_eq_true', Bool.not_eq_false', Bool.and_eq_false_iff, Bool.or_eq_false_iff, decide_eq_true_eq, decide_eq_false_iff_not]; omega) ?_
        refine h_call (c := cMult sg11) rfl trivial fun rs hk hr2 => ?_
        have hr2 : rs = multF m' a' b' (rowOf l (i : Int)) := hr2
        obtain ⟨m2, a2, b2, e2, rfl⟩ := kinds4 hk
        refine h_ite (fun g => ?_) (fun g => ?_)
        · have g : decide (e2 = 0) = true := g
          rw [decide_eq_true_eq] at g
          obtain ⟨_, _, h3, h4, h5⟩ := mult_ok hr2 g
          have hI2 : backI m a b m2 a2 b2 := by
            rcases h5 with ⟨hm, rfl, rfl⟩ | ⟨hm, rfl, rfl⟩
            · exact back_set (x := mulL (lastOf a') (rowOf l (i : Int))) hI h3 h4 (.inl ⟨hm, rfl, rfl⟩)
            · exact back_set (x := mulL (lastOf b') (rowOf l (i : Int))) hI h3 h4 (.inr ⟨hm, rfl, rfl⟩)
          refine h_needR ((i : Int) + 1) rfl (by unfold ok64; omega) (h_again ⟨⟨i + 1, m2, a2, b2, rfl, by omega, hI2⟩, ?_⟩)
          show ((l.length : Int) - ((i : Int) + 1)).toNat < ((l.length : Int) - (i : Int)).toNat
          omega
        · refine h_needR ((i : Int) + 1) rfl (by unfold ok64; omega) (h_again ⟨⟨i + 1, m', a', b', rfl, by omega, hI⟩, ?_⟩)
          show ((l.length : Int) - ((i : Int) + 1)).toNat < ((l.length : Int) - (i : Int)).toNat
          omega
      · refine h_ite (fun g => ?_) (fun g => ?_)
        · have g : decide (e1 = 0) = true := g
          rw [decide_eq_true_eq] at g
          obtain ⟨_, _, h3, h4, h5⟩ := load_ok row_len hr g
          refine h_needR ((i : Int) + 1) rfl (by unfold ok64; omega) (h_again ⟨⟨i + 1, m1, a1, b1, rfl, by omega, back_set hI h3 h4 h5⟩, ?_⟩)
          show ((l.length : Int) - ((i : Int) + 1)).toNat < ((l.length : Int) - (i : Int)).toNat
          omega
        · refine h_needR ((i : Int) + 1) rfl (by unfold ok64; omega) (h_again ⟨⟨i + 1, m', a', b', rfl, by omega, hI⟩, ?_⟩)
          show ((l.length : Int) - ((i : Int) + 1)).toNat < ((l.length : Int) - (i : Int)).toNat
          omega
    · have hc : decide ((i : Int) < (l.length : Int)) = false := hc
      refine h_call (c := cPop sg12) rfl trivial fun rs hk hr => ?_
      have hr : rs = popF m' a' b' := hr
      rw [back_pop hI] at hr
      subst hr
      refine h_call (c := c8) rfl trivial fun rs hk hr => ?_
      have hr : rs = [.b true] := hr
      subst hr
      refine h_cally (c := cSame) rfl rfl (show (m = m ∧ a = a ∧ b = b) ∧ a.length ≤ 1000000000 ∧ b.length ≤ 1000000000 from ⟨⟨rfl, rfl, rfl⟩, by omega, by omega⟩) fun rs hk hr => ?_
      have hr : rs = [.b true] := hr
      subst hr
      rfl
  · cases hp
theorem pre3 (dvs : List DV) (hh : dvsIn (cts sg3.args) dvs) : c3.pre dvs := by
  simp only [sg3, cts, List.flatMap_cons, List.flatMap_nil, VT.cts, List.append_nil, List.cons_append, List.nil_append] at hh
  match dvs, hh with
  | [.i m, .l a, .l b, .l l], hh => trivial

theorem small_do {m k n : Int} {a b : Rows} {x : List Int} : smallF (doF m a b k n x) := by
  unfold doF
  split
  · exact small_choose
  split
  · exact small_load
  split
  · exact small_mult
  split
  · exact small_push
  · exact small_pop
def c5 : Contract := CFn sg5 (fun | [.l l] => True | _ => False) (fun _ => [.b true])
theorem ok5 : ContractOk Try.prog 5 c5 := by
  refine contract_of (Γ := knownOf [(8, c8), (24, cNew sg24), (25, cNew sg25), (26, cDo sg26), (27, cDo sg27), (13, cSame)]) (known_cons ok8 rfl (known_cons ok24 rfl (known_cons ok25 rfl (known_cons ok26 rfl (known_cons ok27 rfl (known_cons ok13 rfl known_nil)))))) Try.func5 rfl rfl is5 fun ds hk hp => ?_
  split at hp
  · skip
    rename_i l
    refine h_ite (fun _ => ?_) (fun g => ?_)
    · refine h_call (c := c8) rfl trivial fun rs hk hr => ?_
      have hr : rs = [.b true] := hr
      subst hr
      rfl
    have g : decide (60 < (l.length : Int)) = false := g
    rw [decide_eq_false_iff_not] at g
    refine h_call (c := cNew sg24) rfl trivial fun rs hk hr => ?_
    have hr : rs = [.i 0, .l [unitL], .l [unitL]] := hr
    subst hr
    refine h_call (c := cNew sg25) rfl trivial fun rs hk hr => ?_
    have hr : rs = [.i 0, .l [unitL], .l [unitL]] := hr
    subst hr
    refine h_loop (fun ds => ∃ (i : Nat) (x : Bool) (mm : Int) (a b : Rows), ds = [.b x, .i i, .i mm, .l a, .l b, .i mm, .l a, .l b] ∧ i ≤ l.length ∧ (a.length ≤ 1000000000 ∧ b.length ≤ 1000000000)) (fun | _ :: .i i :: _ => ((l.length : Int) - i).toNat | _ => 0) ⟨0, false, 0, [unitL], [unitL], rfl, by omega, by simp⟩ ?_
    intro ds _ ⟨i, x, mm, a, b, hds, hi, hsm⟩
    subst hds
    refine h_ite (fun hc => ?_) (fun hc => ?_)
    · have hc : decide ((i : Int) < (l.length : Int)) = true := hc
      simp only [Env.sets, Env.set, BE.den, IE.den, DE.den, DV.int, DV.bool, DV.list, LOp.den, List.map_cons, List.map_nil, Nat.reduceEqDiff, ↓reduceIte, reduceCtorEq, Bool.and_eq_true, Bool.or_eq_true, Bool.not_eq_true', Bool.not_eq_false', Bool.and_eq_false_iff, Bool.or_eq_false_iff, decide_eq_true_eq, decide_eq_false_iff_not] at hc
      refine h_need (by simp only [Env.sets, Env.set, BE.den, IE.den, DE.den, DV.int, DV.bool, DV.list, LOp.den, List.map_cons, List.map_nil, Nat.reduceEqDiff, ↓reduceIte, reduceCtorEq, Bool.and_eq_true, Bool.or_eq_true, Bool.not_eq_true', Bool.not_eq_false', Bool.and_eq_false_iff, Bool.or_eq_false_iff, decide_eq_true_eq, decide_eq_false_iff_not]; omega) ?_
      refine h_call (c := cDo sg26) rfl trivial fun rs hk hr => ?_
      have hr : rs = doF mm a b (cellAt l i 0) (cellAt l i 1) [cellAt l i 2, cellAt l i 3, cellAt l i 4, cellAt l i 5, cellAt l i 6, cellAt l i 7, cellAt l i 8, cellAt l i 9, cellAt l i 10, cellAt l i 11, cellAt l i 12, cellAt l i 13, cellAt l i 14, cellAt l i 15, cellAt l i 16, cellAt l i 17] := hr
      obtain ⟨qm, qa, qb, qe, rfl⟩ := kinds4 hk
      iterate 2 refine h_need (by simp only [Env.sets, Env.set, BE.den, IE.den, DE.den, DV.int, DV.bool, DV.list, LOp.den, List.map_cons, List.map_nil, Nat.reduceEqDiff, ↓reduceIte, reduceCtorEq, Bool.and_eq_true, Bool.or_eq_true, Bool.not_eq_true', Bool.not_eq_false', Bool.and_eq_false_iff, Bool.or_eq_false_iff, decide_eq_true_eq, decide_eq_false_iff_not]; omega) ?_
      refine h_call (c := cDo sg27) rfl trivial fun rs hk hr2 => ?_
      have hr2 : rs = doF mm a b (cellAt l i 0) (cellAt l i 1) [cellAt l i 2, cellAt l i 3, cellAt l i 4, cellAt l i 5, cellAt l i 6, cellAt l i 7, cellAt l i 8, cellAt l i 9, cellAt l i 10, cellAt l i 11, cellAt l i 12, cellAt l i 13, cellAt l i 14, cellAt l i 15, cellAt l i 16, cellAt l i 17] := hr2
      rw [← hr] at hr2
      subst hr2
      have qs := small_do _ _ _ _ hr.symm
      clear hr
      refine h_cally (c := cSame) rfl (by simp [Env.sets, Env.set, BE.den, IE.den, DV.bool, DV.int]) (show (qm = qm ∧ qa = qa ∧ qb = qb) ∧ _ from ⟨⟨rfl, rfl, rfl⟩, qs⟩) fun rs hk hr => ?_
      have hr : rs = [.b true] := hr
      subst hr
      refine h_cally (c := cSame) rfl (by simp [Env.sets, Env.set, BE.den, IE.den, DV.bool, DV.int]) (show (mm = mm ∧ a = a ∧ b = b) ∧ a.length ≤ 1000000000 ∧ b.length ≤ 1000000000 from ⟨⟨rfl, rfl, rfl⟩, hsm⟩) fun rs hk hr => ?_
      have hr : rs = [.b true] := hr
      subst hr
      refine h_ite (fun g => absurd g (by simp [Env.sets, Env.set, BE.den, IE.den, DV.bool, DV.int])) (fun _ => ?_)
      refine h_ite (fun _ => ?_) (fun _ => ?_)
      · refine h_needR ((i : Int) + 1) rfl (by unfold ok64; omega) (h_again ⟨⟨i + 1, _, _, _, _, rfl, by omega, qs⟩, ?_⟩)
        show ((l.length : Int) - ((i : Int) + 1)).toNat < ((l.length : Int) - (i : Int)).toNat
        omega
      · refine h_needR ((i : Int) + 1) rfl (by unfold ok64; omega) (h_again ⟨⟨i + 1, _, _, _, _, rfl, by omega, hsm⟩, ?_⟩)
        show ((l.length : Int) - ((i : Int) + 1)).toNat < ((l.length : Int) - (i : Int)).toNat
        omega
    · refine h_call (c := c8) rfl trivial fun rs hk hr => ?_
      have hr : rs = [.b true] := hr
      subst hr
      refine h_cally (c := cSame) rfl rfl (show (mm = mm ∧ a = a ∧ b = b) ∧ a.length ≤ 1000000000 ∧ b.length ≤ 1000000000 from ⟨⟨rfl, rfl, rfl⟩, hsm⟩) fun rs hk hr => ?_
      have hr : rs = [.b true] := hr
      subst hr
      rfl
  · cases hp
theorem pre5 (dvs : List DV) (hh : dvsIn (cts sg5.args) dvs) : c5.pre dvs := by
  simp only [sg5, cts, List.flatMap_cons, List.flatMap_nil, VT.cts, List.append_nil, List.cons_append, List.nil_append] at hh
  match dvs, hh with
  | [.l l], hh => trivial

theorem apart_do {X x : List Int} {b c d : Rows} {k n p e : Int} (hx : x.length = 16) (hk : 1 ≤ k ∧ k ≤ 4) (h : [DV.i p, .l c, .l d, .i e] = doF 1 [X] b k n x) (he : e = 0) : p = 1 ∧ c = [X] ∧ rightS 1 [X] d ∧ (k = 2 → mulE (lastOf b) x = 0 ∧ lastOf d = mulL (lastOf b) x) := by
  unfold doF at h
  rw [if_neg (by omega)] at h
  split at h
  · obtain ⟨_, _, h1, h2, h3⟩ := load_ok hx h he
    rcases h3 with ⟨hm, _⟩ | ⟨_, rfl, h4⟩
    · omega
    · exact ⟨h2, rfl, h1, fun h => by omega⟩
  split at h
  · obtain ⟨h0, hR, h1, h2, h3⟩ := mult_ok h he
    rcases h3 with ⟨hm, _⟩ | ⟨_, rfl, h4⟩
    · omega
    · refine ⟨h2, rfl, h1, fun _ => ⟨h0, ?_⟩⟩
      obtain ⟨q, r, rfl⟩ := ends hR.2.2.1
      rw [h4, setLast_app, lastOf_app rfl]
  split at h
  · obtain ⟨hR, h1, h2, h3⟩ := push_ok h he
    rcases h3 with ⟨hm, _⟩ | ⟨_, rfl, h4⟩
    · omega
    · exact ⟨h2, rfl, h1, fun h => by omega⟩
  · obtain ⟨hR, h1, h2, h3⟩ := pop_ok h he
    rcases h3 with ⟨hm, _⟩ | ⟨_, rfl, h4⟩
    · omega
    · exact ⟨h2, rfl, h1, fun h => by omega⟩
theorem load_new {x : List Int} (hx : x.length = 16) (h : rightP x) : loadF 0 [unitL] [unitL] x = [.i 0, .l [x], .l [unitL], .i 0] ∧ rightS 0 [x] [unitL] := by
  have hS : rightS 0 [x] [unitL] := ⟨.inl rfl, (rightL_app (c := []) hx).2 ⟨by simp, by simp, h⟩, new_right.2.2⟩
  refine ⟨?_, hS⟩
  unfold loadF
  rw [if_pos ⟨new_right, h⟩, if_pos rfl]
  rfl
theorem load_bad {m : Int} {a b : Rows} {x : List Int} (h : ¬ rightP x) : loadF m a b x = badS 1 := by
  unfold loadF
  rw [if_neg (fun g => h g.2)]
theorem last_one {x : List Int} (hx : x.length = 16) : lastOf [x] = x := lastOf_app (c := []) hx
def c6 : Contract := CFn sg6 (fun | [.l l, .i x0, .i x1, .i x2, .i x3, .i x4, .i x5, .i x6, .i x7, .i x8, .i x9, .i x10, .i x11, .i x12, .i x13, .i x14, .i x15] => True | _ => False) (fun _ => [.b true])
theorem ok6 : ContractOk Try.prog 6 c6 := by
  refine contract_of (Γ := knownOf [(8, c8), (24, cNew sg24), (10, cLoad sg10), (28, cRight sg28), (16, cChoose sg16), (14, cTop sg14), (26, cDo sg26), (29, cMul sg29)]) (known_cons ok8 rfl (known_cons ok24 rfl (known_cons ok10 rfl (known_cons ok28 rfl (known_cons ok16 rfl (known_cons ok14 rfl (known_cons ok26 rfl (known_cons ok29 rfl known_nil)))))))) Try.func6 rfl rfl is6 fun ds hk hp => ?_
  split at hp
  · skip
    rename_i l x0 x1 x2 x3 x4 x5 x6 x7 x8 x9 x10 x11 x12 x13 x14 x15
    refine h_ite (fun _ => ?_) (fun g => ?_)
    · refine h_call (c := c8) rfl trivial fun rs hk hr => ?_
      have hr : rs = [.b true] := hr
      subst hr
      rfl
    have g : decide (40 < (l.length : Int)) = false := g
    rw [decide_eq_false_iff_not] at g
    refine h_call (c := cNew sg24) rfl trivial fun rs hk hr => ?_
    have hr : rs = [.i 0, .l [unitL], .l [unitL]] := hr
    subst hr
    refine h_call (c := cLoad sg10) rfl trivial fun rs hk hr => ?_
    have hr : rs = loadF 0 [unitL] [unitL] [x0, x1, x2, x3, x4, x5, x6, x7, x8, x9, x10, x11, x12, x13, x14, x15] := hr
    by_cases hX : rightP [x0, x1, x2, x3, x4, x5, x6, x7, x8, x9, x10, x11, x12, x13, x14, x15]
    case neg =>
      rw [load_bad hX] at hr
      have hr : rs = [.i 0, .l [], .l [], .i 1] := hr
      subst hr
      refine h_ite (fun _ => ?_) (fun g => absurd (show (!decide ((1 : Int) = 0)) = false from g) (by decide))
      refine h_call (c := c8) rfl trivial fun rs hk hr => ?_
      have hr : rs = [.b true] := hr
      subst hr
      refine h_cally (c := cRight sg28) rfl rfl trivial fun rs hk hr => ?_
      have hr : rs = [.b (decide (rightP [x0, x1, x2, x3, x4, x5, x6, x7, x8, x9, x10, x11, x12, x13, x14, x15]))] := hr
      rw [decide_eq_false hX] at hr
      subst hr
      rfl
    obtain ⟨hl, hR0⟩ := load_new (x := [x0, x1, x2, x3, x4, x5, x6, x7, x8, x9, x10, x11, x12, x13, x14, x15]) rfl hX
    rw [hl] at hr
    subst hr
    clear hl
    refine h_ite (fun g => absurd (show (!decide ((0 : Int) = 0)) = true from g) (by decide)) (fun _ => ?_)
    refine h_call (c := cChoose sg16) rfl trivial fun rs hk hr => ?_
    have hr : rs = chooseF 0 [[x0, x1, x2, x3, x4, x5, x6, x7, x8, x9, x10, x11, x12, x13, x14, x15]] [unitL] 1 := hr
    unfold chooseF at hr
    rw [if_pos ⟨hR0, by omega, by omega⟩] at hr
    subst hr
    have hR1 : rightS 1 [[x0, x1, x2, x3, x4, x5, x6, x7, x8, x9, x10, x11, x12, x13, x14, x15]] [unitL] := ⟨.inr rfl, hR0.2⟩
    refine h_loop (fun ds => ∃ (i : Nat) (x : Bool) (b' : Rows), ds = [.b x, .i i, .i 1, .l [[x0, x1, x2, x3, x4, x5, x6, x7, x8, x9, x10, x11, x12, x13, x14, x15]], .l b'] ∧ i ≤ l.length ∧ rightS 1 [[x0, x1, x2, x3, x4, x5, x6, x7, x8, x9, x10, x11, x12, x13, x14, x15]] b') (fun | _ :: .i i :: _ => ((l.length : Int) - i).toNat | _ => 0) ⟨0, _, _, rfl, by omega, hR1⟩ ?_
    intro ds _ ⟨i, x, b', hds, hi, hR⟩
    subst hds
    refine h_ite (fun hc => ?_) (fun hc => ?_)
    · have hc : (decide ((i : Int) < (l.length : Int)) && decide ((0 : Int) = 0)) = true := hc
      simp only [Env.sets, Env.set, BE.den, IE.den, DE.den, DV.int, DV.bool, DV.list, LOp.den, List.map_cons, List.map_nil, Nat.reduceEqDiff, ↓reduceIte, reduceCtorEq, Bool.and_eq_true, Bool.or_eq_true, Bool.not_eq_true', Bool.not_eq_false', Bool.and_eq_false_iff, Bool.or_eq_false_iff, decide_eq_true_eq, decide_eq_false_iff_not] at hc
      have hc := hc.1
      refine h_need (by simp only [Env.sets, Env.set, BE.den, IE.den, DE.den, DV.int, DV.bool, DV.list, LOp.den, List.map_cons, List.map_nil, Nat.reduceEqDiff, ↓reduceIte, reduceCtorEq, Bool.and_eq_true, Bool.or_eq_true, Bool.not_eq_true', Bool.not_eq_false', Bool.and_eq_false_iff, Bool.or_eq_false_iff, decide_eq_true_eq, decide_eq_false_iff_not]; omega) ?_
      refine h_ite (fun _ => ?_) (fun g2 => ?_)
      · refine h_needR ((i : Int) + 1) rfl (by unfold ok64; omega) (h_again ⟨⟨i + 1, _, b', rfl, by omega, hR⟩, ?_⟩)
        show ((l.length : Int) - ((i : Int) + 1)).toNat < ((l.length : Int) - (i : Int)).toNat
        omega
      have g2 : (decide (cellAt l i 0 < 1) || decide (4 < cellAt l i 0)) = false := g2
      simp only [Env.sets, Env.set, BE.den, IE.den, DE.den, DV.int, DV.bool, DV.list, LOp.den, List.map_cons, List.map_nil, Nat.reduceEqDiff, ↓reduceIte, reduceCtorEq, Bool.and_eq_true, Bool.or_eq_true, Bool.not_eq_true', Bool.not_eq_false', Bool.and_eq_false_iff, Bool.or_eq_false_iff, decide_eq_true_eq, decide_eq_false_iff_not] at g2
      have hk4 : 1 ≤ cellAt l i 0 ∧ cellAt l i 0 ≤ 4 := by omega
      refine h_call (c := cTop sg14) rfl trivial fun rs hk hr => ?_
      have hr : rs = topF 1 [[x0, x1, x2, x3, x4, x5, x6, x7, x8, x9, x10, x11, x12, x13, x14, x15]] b' 1 := hr
      rw [topF_ok hR (by omega) (by omega)] at hr
      have hr : rs = [.i (cellAt b' ((b'.length : Int) - 1) 0), .i (cellAt b' ((b'.length : Int) - 1) 1), .i (cellAt b' ((b'.length : Int) - 1) 2), .i (cellAt b' ((b'.length : Int) - 1) 3), .i (cellAt b' ((b'.length : Int) - 1) 4), .i (cellAt b' ((b'.length : Int) - 1) 5), .i (cellAt b' ((b'.length : Int) - 1) 6), .i (cellAt b' ((b'.length : Int) - 1) 7), .i (cellAt b' ((b'.length : Int) - 1) 8), .i (cellAt b' ((b'.length : Int) - 1) 9), .i (cellAt b' ((b'.length : Int) - 1) 10), .i (cellAt b' ((b'.length : Int) - 1) 11), .i (cellAt b' ((b'.length : Int) - 1) 12), .i (cellAt b' ((b'.length : Int) - 1) 13), .i (cellAt b' ((b'.length : Int) - 1) 14), .i (cellAt b' ((b'.length : Int) - 1) 15), .i 0] := hr
      subst hr
      iterate 2 refine h_need (by simp only [Env.sets, Env.set, BE.den, IE.den, DE.den, DV.int, DV.bool, DV.list, LOp.den, List.map_cons, List.map_nil, Nat.reduceEqDiff, ↓reduceIte, reduceCtorEq, Bool.and_eq_true, Bool.or_eq_true, Bool.not_eq_true', Bool.not_eq_false', Bool.and_eq_false_iff, Bool.or_eq_false_iff, decide_eq_true_eq, decide_eq_false_iff_not]; omega) ?_
      refine h_call (c := cDo sg26) rfl trivial fun rs hk hr => ?_
      have hr : rs = doF 1 [[x0, x1, x2, x3, x4, x5, x6, x7, x8, x9, x10, x11, x12, x13, x14, x15]] b' (cellAt l i 0) (cellAt l i 1) [cellAt l i 2, cellAt l i 3, cellAt l i 4, cellAt l i 5, cellAt l i 6, cellAt l i 7, cellAt l i 8, cellAt l i 9, cellAt l i 10, cellAt l i 11, cellAt l i 12, cellAt l i 13, cellAt l i 14, cellAt l i 15, cellAt l i 16, cellAt l i 17] := hr
      obtain ⟨m2, a2, b2, e2, rfl⟩ := kinds4 hk
      refine h_ite (fun _ => ?_) (fun g3 => ?_)
      · refine h_needR ((i : Int) + 1) rfl (by unfold ok64; omega) (h_again ⟨⟨i + 1, _, b', rfl, by omega, hR⟩, ?_⟩)
        show ((l.length : Int) - ((i : Int) + 1)).toNat < ((l.length : Int) - (i : Int)).toNat
        omega
      have g3 : (!decide (e2 = 0)) = false := g3
      rw [Bool.not_eq_false', decide_eq_true_eq] at g3
      obtain ⟨rfl, rfl, hR2, hmul⟩ := apart_do rfl hk4 hr g3
      clear hr
      refine h_call (c := cTop sg14) rfl trivial fun rs hk hr => ?_
      have hr : rs = topF 1 [[x0, x1, x2, x3, x4, x5, x6, x7, x8, x9, x10, x11, x12, x13, x14, x15]] b2 1 := hr
      rw [topF_ok hR2 (by omega) (by omega)] at hr
      have hr : rs = [.i (cellAt b2 ((b2.length : Int) - 1) 0), .i (cellAt b2 ((b2.length : Int) - 1) 1), .i (cellAt b2 ((b2.length : Int) - 1) 2), .i (cellAt b2 ((b2.length : Int) - 1) 3), .i (cellAt b2 ((b2.length : Int) - 1) 4), .i (cellAt b2 ((b2.length : Int) - 1) 5), .i (cellAt b2 ((b2.length : Int) - 1) 6), .i (cellAt b2 ((b2.length : Int) - 1) 7), .i (cellAt b2 ((b2.length : Int) - 1) 8), .i (cellAt b2 ((b2.length : Int) - 1) 9), .i (cellAt b2 ((b2.length : Int) - 1) 10), .i (cellAt b2 ((b2.length : Int) - 1) 11), .i (cellAt b2 ((b2.length : Int) - 1) 12), .i (cellAt b2 ((b2.length : Int) - 1) 13), .i (cellAt b2 ((b2.length : Int) - 1) 14), .i (cellAt b2 ((b2.length : Int) - 1) 15), .i 0] := hr
      subst hr
      iterate 2 refine h_need (by simp only [Env.sets, Env.set, BE.den, IE.den, DE.den, DV.int, DV.bool, DV.list, LOp.den, List.map_cons, List.map_nil, Nat.reduceEqDiff, ↓reduceIte, reduceCtorEq, Bool.and_eq_true, Bool.or_eq_true, Bool.not_eq_true', Bool.not_eq_false', Bool.and_eq_false_iff, Bool.or_eq_false_iff, decide_eq_true_eq, decide_eq_false_iff_not]; omega) ?_
      refine h_ite (fun g4 => ?_) (fun _ => ?_)
      · have g4 : decide (cellAt l i 0 = 2) = true := g4
        rw [decide_eq_true_eq] at g4
        obtain ⟨hE, hL⟩ := hmul g4
        refine h_call (c := cMul sg29) rfl trivial fun rs hk hr => ?_
        have hr : rs = (mulL (lastOf b') [cellAt l i 2, cellAt l i 3, cellAt l i 4, cellAt l i 5, cellAt l i 6, cellAt l i 7, cellAt l i 8, cellAt l i 9, cellAt l i 10, cellAt l i 11, cellAt l i 12, cellAt l i 13, cellAt l i 14, cellAt l i 15, cellAt l i 16, cellAt l i 17]).map DV.i ++ [.i (mulE (lastOf b') [cellAt l i 2, cellAt l i 3, cellAt l i 4, cellAt l i 5, cellAt l i 6, cellAt l i 7, cellAt l i 8, cellAt l i 9, cellAt l i 10, cellAt l i 11, cellAt l i 12, cellAt l i 13, cellAt l i 14, cellAt l i 15, cellAt l i 16, cellAt l i 17])] := hr
        rw [hE, ← hL] at hr
        have hr : rs = [.i (cellAt b2 ((b2.length : Int) - 1) 0), .i (cellAt b2 ((b2.length : Int) - 1) 1), .i (cellAt b2 ((b2.length : Int) - 1) 2), .i (cellAt b2 ((b2.length : Int) - 1) 3), .i (cellAt b2 ((b2.length : Int) - 1) 4), .i (cellAt b2 ((b2.length : Int) - 1) 5), .i (cellAt b2 ((b2.length : Int) - 1) 6), .i (cellAt b2 ((b2.length : Int) - 1) 7), .i (cellAt b2 ((b2.length : Int) - 1) 8), .i (cellAt b2 ((b2.length : Int) - 1) 9), .i (cellAt b2 ((b2.length : Int) - 1) 10), .i (cellAt b2 ((b2.length : Int) - 1) 11), .i (cellAt b2 ((b2.length : Int) - 1) 12), .i (cellAt b2 ((b2.length : Int) - 1) 13), .i (cellAt b2 ((b2.length : Int) - 1) 14), .i (cellAt b2 ((b2.length : Int) - 1) 15), .i 0] := hr
        subst hr
        refine h_ite (fun g => absurd g (by simp [Env.sets, Env.set, BE.den, IE.den, DV.bool, DV.int])) (fun _ => ?_)
        refine h_needR ((i : Int) + 1) rfl (by unfold ok64; omega) (h_again ⟨⟨i + 1, _, b2, rfl, by omega, hR2⟩, ?_⟩)
        show ((l.length : Int) - ((i : Int) + 1)).toNat < ((l.length : Int) - (i : Int)).toNat
        omega
      · refine h_needR ((i : Int) + 1) rfl (by unfold ok64; omega) (h_again ⟨⟨i + 1, _, b2, rfl, by omega, hR2⟩, ?_⟩)
        show ((l.length : Int) - ((i : Int) + 1)).toNat < ((l.length : Int) - (i : Int)).toNat
        omega
    · refine h_call (c := cTop sg14) rfl trivial fun rs hk hr => ?_
      have hr : rs = topF 1 [[x0, x1, x2, x3, x4, x5, x6, x7, x8, x9, x10, x11, x12, x13, x14, x15]] b' 0 := hr
      rw [topF_ok hR (by omega) (by omega), show cur 0 [[x0, x1, x2, x3, x4, x5, x6, x7, x8, x9, x10, x11, x12, x13, x14, x15]] b' = [[x0, x1, x2, x3, x4, x5, x6, x7, x8, x9, x10, x11, x12, x13, x14, x15]] from rfl, last_one rfl] at hr
      have hr : rs = [.i x0, .i x1, .i x2, .i x3, .i x4, .i x5, .i x6, .i x7, .i x8, .i x9, .i x10, .i x11, .i x12, .i x13, .i x14, .i x15, .i 0] := hr
      subst hr
      refine h_call (c := c8) rfl trivial fun rs hk hr => ?_
      have hr : rs = [.b true] := hr
      subst hr
      simp [Tree.holds, DE.den, BE.den, IE.den, Env.sets, Env.set, DV.bool, DV.int, DV.list]
  · cases hp
theorem pre6 (dvs : List DV) (hh : dvsIn (cts sg6.args) dvs) : c6.pre dvs := by
  simp only [sg6, cts, List.flatMap_cons, List.flatMap_nil, VT.cts, List.append_nil, List.cons_append, List.nil_append] at hh
  match dvs, hh with
  | [.l l, .i x0, .i x1, .i x2, .i x3, .i x4, .i x5, .i x6, .i x7, .i x8, .i x9, .i x10, .i x11, .i x12, .i x13, .i x14, .i x15], hh => trivial

end Go.Proofs.Ytnpmcfjagijkgaa.Fns
