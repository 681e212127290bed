/- Layer 15: the law DashSplits, as a function. -/
import Derived.Test.YtbaapkffmloclaaLaws
set_option linter.unusedVariables false
set_option linter.unusedSimpArgs false
set_option maxRecDepth 10000
namespace Go.Proofs.Ytbaapkffmloclaa.Fns
open Go.Sx Go.Proofs.Ytbaapkffmloclaa.Trees

/-! ### What the runs are -/
/-- The first, the second number of a run. -/
def fA (l : List (List Int)) (i : Nat) : Int := cellAt l (i : Int) 0
def fB (l : List (List Int)) (i : Nat) : Int := cellAt l (i : Int) 1

theorem cellAt_set (l : List (List Int)) (m : Nat) (hm : m < l.length) (x : Int) (i j : Nat) :
    cellAt (setAt l (m : Int) 1 x) (i : Int) j = if i = m ∧ j = 1 then x else cellAt l (i : Int) j := by
  simp only [cellAt, setAt, Int.toNat_natCast]
  have e : (l.modify m fun r => setPad r 1 x).getD i [] = if i = m then setPad (l.getD i []) 1 x else l.getD i [] := by
    simp only [List.getD_eq_getElem?_getD, List.getElem?_modify]
    by_cases h : m = i
    · subst h
      simp [List.getElem?_eq_getElem hm]
    · have h' : ¬ i = m := fun e => h e.symm
      simp [h, h']
  rw [e]
  by_cases h : i = m
  · simp only [h, if_true, true_and]
    exact setPad_getD _ _ _ _
  · simp [h]

theorem cellAt_app (l : List (List Int)) (a e : Int) (i j : Nat) (hj : j < 2) : cellAt (l ++ [[a, e]]) (i : Int) j = if i = l.length then (if j = 0 then a else e) else cellAt l (i : Int) j := by
  simp only [cellAt, Int.toNat_natCast]
  rw [List.getD_eq_getElem?_getD (l := l ++ _), List.getD_eq_getElem?_getD (l := l)]
  by_cases h : i < l.length
  · rw [List.getElem?_append_left h, if_neg (by omega)]
  · rw [List.getElem?_append_right (by omega)]
    by_cases h2 : i = l.length
    · subst h2
      simp only [Nat.sub_self, if_true]
      match j, hj with
      | 0, _ => rfl
      | 1, _ => rfl
    · rw [if_neg h2, List.getElem?_eq_none (by simp; omega), List.getElem?_eq_none (by omega)]

structure Good (p r c : Int) (l : List (List Int)) (k : Nat) : Prop where
  run : ∀ i, i < l.length → 0 ≤ fA l i ∧ fA l i < fB l i ∧ fB l i ≤ k
  apart : ∀ i, i + 1 < l.length → fB l i < fA l (i + 1)
  lit : ∀ j : Nat, j < k → (litB p r c j = true ↔ ∃ i, i < l.length ∧ fA l i ≤ j ∧ (j : Int) < fB l i)

theorem runs_good (p r c : Int) : ∀ k, Good p r c (runsN p r c k) k := by
  intro k
  induction k with
  | zero => exact ⟨fun i h => by simp [runsN] at h, fun i h => by simp [runsN] at h, fun j h => by omega⟩
  | succ k ih =>
    rw [runs_step]
    split
    · rename_i hl
      generalize runsN p r c k = l at *
      unfold ext
      split
      · rename_i hlast
        obtain ⟨h1, h2⟩ := hlast
        obtain ⟨m, hm⟩ : ∃ m : Nat, l.length = m + 1 := ⟨l.length - 1, by omega⟩
        have hmi : (l.length : Int) - 1 = (m : Int) := by omega
        rw [hmi] at h2 ⊢
        have eA : ∀ i, fA (setAt l (m : Int) 1 ((k : Int) + 1)) i = fA l i := fun i => by
          unfold fA; rw [cellAt_set l m (by omega)]; simp
        have eB : ∀ i, fB (setAt l (m : Int) 1 ((k : Int) + 1)) i = if i = m then (k : Int) + 1 else fB l i := fun i => by
          unfold fB; rw [cellAt_set l m (by omega)]; simp
        have hlen : (setAt l (m : Int) 1 ((k : Int) + 1)).length = l.length := setAt_len _ _ _ _
        have hBm : fB l m = k := h2
        refine ⟨fun i hi => ?_, fun i hi => ?_, fun j hj => ?_⟩
        · rw [hlen] at hi
          rw [eA, eB]
          have := ih.run i hi
          split
          · rename_i e; subst e; omega
          · omega
        · rw [hlen] at hi
          rw [eA, eB, if_neg (by omega)]
          exact ih.apart i hi
        · rw [hlen]
          rcases Nat.lt_or_ge j k with h | h
          · rw [ih.lit j h]
            constructor
            · rintro ⟨i, g1, g2, g3⟩
              refine ⟨i, g1, by rw [eA]; exact g2, ?_⟩
              rw [eB]; split
              · omega
              · exact g3
            · rintro ⟨i, g1, g2, g3⟩
              rw [eA] at g2
              rw [eB] at g3
              refine ⟨i, g1, g2, ?_⟩
              split at g3
              · rename_i e; subst e; omega
              · exact g3
          · have : j = k := by omega
            subst this
            refine ⟨fun _ => ⟨m, by omega, ?_, ?_⟩, fun _ => hl⟩
            · rw [eA]; have := ih.run m (by omega); omega
            · rw [eB, if_pos rfl]; omega
      · rename_i hlast
        have eA : ∀ i, fA (l ++ [[(k : Int), (k : Int) + 1]]) i = if i = l.length then (k : Int) else fA l i := fun i => by
          unfold fA; rw [cellAt_app _ _ _ _ _ (by omega)]; simp
        have eB : ∀ i, fB (l ++ [[(k : Int), (k : Int) + 1]]) i = if i = l.length then (k : Int) + 1 else fB l i := fun i => by
          unfold fB; rw [cellAt_app _ _ _ _ _ (by omega)]; simp
        have hlen : (l ++ [[(k : Int), (k : Int) + 1]]).length = l.length + 1 := by simp
        refine ⟨fun i hi => ?_, fun i hi => ?_, fun j hj => ?_⟩
        · rw [hlen] at hi
          rw [eA, eB]
          split
          · omega
          · have := ih.run i (by omega); omega
        · rw [hlen] at hi
          rw [eA, eB, if_neg (by omega)]
          split
          · rename_i e
            have h1 := ih.run i (by omega)
            have h2 : fB l i ≠ k := fun he => hlast ⟨by omega, by
              have : (l.length : Int) - 1 = (i : Int) := by omega
              rw [this]; exact he⟩
            omega
          · exact ih.apart i (by omega)
        · rw [hlen]
          rcases Nat.lt_or_ge j k with h | h
          · rw [ih.lit j h]
            constructor
            · rintro ⟨i, g1, g2, g3⟩
              exact ⟨i, by omega, by rw [eA, if_neg (by omega)]; exact g2, by rw [eB, if_neg (by omega)]; exact g3⟩
            · rintro ⟨i, g1, g2, g3⟩
              rw [eA] at g2
              rw [eB] at g3
              by_cases e : i = l.length
              · rw [if_pos e] at g2; omega
              · rw [if_neg e] at g2 g3; exact ⟨i, by omega, g2, g3⟩
          · have : j = k := by omega
            subst this
            refine ⟨fun _ => ⟨l.length, by omega, ?_, ?_⟩, fun _ => hl⟩
            · rw [eA, if_pos rfl]; omega
            · rw [eB, if_pos rfl]; omega
    · rename_i hl
      refine ⟨fun i hi => ?_, ih.apart, fun j hj => ?_⟩
      · have := ih.run i hi; omega
      · rcases Nat.lt_or_ge j k with h | h
        · exact ih.lit j h
        · have : j = k := by omega
          subst this
          refine ⟨fun h => absurd h hl, ?_⟩
          rintro ⟨i, g1, g2, g3⟩
          have := ih.run i g1
          omega

/-- The runs rise. -/
theorem Good.rise {p r c : Int} {l : List (List Int)} {k : Nat} (h : Good p r c l k) : ∀ {j i : Nat}, i < j → j < l.length → fB l i < fA l j := by
  intro j
  induction j with
  | zero => intro i hi; omega
  | succ j ih =>
    intro i hi hj
    rcases Nat.lt_or_ge i j with g | g
    · have h1 := ih g (by omega)
      have h2 := (h.run j (by omega)).2.1
      have h3 := h.apart j hj
      omega
    · have : i = j := by omega
      subst this
      exact h.apart i hj

/-- A pixel behind the runs before 'at', and not behind that: it is lit just if it is in it. -/
theorem Good.at' {p r c : Int} {l : List (List Int)} {n k t : Nat} (h : Good p r c l n) (hk : k < n) (h1 : ∀ i, i < t → fB l i ≤ k) (h2 : t < l.length → (k : Int) < fB l t) (h3 : t ≤ l.length) :
    litB p r c k = (decide (t < l.length) && decide (fA l t ≤ k)) := by
  rw [Bool.eq_iff_iff, h.lit k hk]
  simp only [Bool.and_eq_true, decide_eq_true_eq]
  constructor
  · rintro ⟨i, g1, g2, g3⟩
    have hti : t ≤ i := Nat.le_of_not_lt fun e => by have := h1 i e; omega
    rcases Nat.lt_or_ge t i with e | e
    · have := h.rise e g1
      have := h2 (by omega)
      omega
    · have : i = t := by omega
      subst this
      exact ⟨g1, g2⟩
  · rintro ⟨g1, g2⟩
    exact ⟨t, g1, g2, h2 g1⟩

theorem h_out {Γ : Known} {R : List DV → Prop} {env : Env} {F : Nat → List DV → Prop} {id j : Nat} {vals : List DE} {G : List DV → Prop} (hne : id ≠ j) (h : (Tree.again id vals).holds Γ R env F) : (Tree.again id vals).holds Γ R env (upF F j G) := by
  simpa [Tree.holds, upF, hne] using h

def c4 : Contract := CFn sg4 (fun | [.i p, .i r, .i c, .i n] => True | _ => False) (fun _ => [.b true])

theorem ok4 : ContractOk Try.prog 4 c4 := by
  refine contract_of (Γ := knownOf [(7, c7), (8, c8), (10, c10), (12, c12)]) (known_cons ok7 rfl (known_cons ok8 rfl (known_cons ok10 rfl (known_cons ok12 rfl known_nil)))) Try.func4 rfl rfl is4 fun ds hk hp => ?_
  split at hp
  · rename_i p r c n
    refine h_call (c := c7) rfl trivial fun rs hk hr => ?_
    have hr : rs = [.b (rightB p r c)] := hr
    subst hr
    refine h_ite (fun hc => ?_) (fun hc => ?_)
    · refine h_call (c := c8) rfl trivial fun rs hk hr => ?_
      have hr : rs = [.b true] := hr
      subst hr
      simp [Tree.holds, DE.den, BE.den, Env.sets, Env.set, DV.bool]
    · simp only [Env.sets, Env.set, BE.den, IE.den, DV.int, DV.list, DV.bool, Nat.reduceEqDiff, ↓reduceIte, reduceCtorEq, Bool.or_eq_false_iff, Bool.not_eq_false', decide_eq_false_iff_not] at hc
      obtain ⟨⟨hR, hn0⟩, hn1⟩ := hc
      obtain ⟨g1, g2, g3, g4, g5, g6⟩ := right_spec hR
      obtain ⟨N, hN⟩ : ∃ N : Nat, n = N := ⟨n.toNat, by omega⟩
      subst hN
      refine h_call (c := c10) rfl (show litPre p r c (N : Int) ∧ c ≤ 1099511627776 ∧ (N : Int) ≤ 100000 from ⟨⟨g1, g2, g3, g4, g5, by omega, by omega, by omega⟩, g6, by omega⟩) fun rs hk hr => ?_
      have hr : rs = [.l (runsN p r c N)] := by simpa using (show rs = [.l (runsN p r c (N : Int).toNat)] from hr)
      subst hr
      have hg := runs_good p r c N
      have hlen := runsN_len p r c N
      obtain ⟨l, hl⟩ : ∃ l, runsN p r c N = l := ⟨_, rfl⟩
      rw [hl] at hg hlen ⊢
      refine h_loop (fun ds => ∃ (x : Bool) (i : Nat), ds = [.b x, .i i] ∧ i ≤ l.length) (fun | [_, .i i] => ((l.length : Int) - i).toNat | _ => 0) ⟨false, 0, by simp [DE.den, BE.den, IE.den], by omega⟩ ?_
      intro ds _ ⟨x, i, hds, hi⟩
      subst hds
      refine h_ite (fun hc => ?_) (fun hc => ?_)
      · simp only [Env.sets, Env.set, BE.den, IE.den, DV.int, DV.list, Nat.reduceEqDiff, ↓reduceIte, reduceCtorEq, decide_eq_true_eq] at hc
        have hrun := hg.run i (by omega)
        simp only [fA, fB] at hrun
        have hap : 0 < i → cellAt l ((i : Int) - 1) 1 < cellAt l (i : Int) 0 := fun h0 => by
          have := hg.apart (i - 1) (by omega)
          rw [show i - 1 + 1 = i by omega] at this
          simp only [fA, fB] at this
          rw [show ((i - 1 : Nat) : Int) = (i : Int) - 1 by omega] at this
          exact this
        obtain ⟨a0, ha0⟩ : ∃ a0, cellAt l (i : Int) 0 = a0 := ⟨_, rfl⟩
        obtain ⟨b0, hb0⟩ : ∃ b0, cellAt l (i : Int) 1 = b0 := ⟨_, rfl⟩
        obtain ⟨b1, hb1⟩ : ∃ b1, cellAt l ((i : Int) - 1) 1 = b1 := ⟨_, rfl⟩
        rw [ha0, hb0] at hrun
        rw [ha0, hb1] at hap
        iterate 10 refine h_need (by simp only [Env.sets, Env.set, BE.den, IE.den, DV.int, DV.bool, DV.list, Nat.reduceEqDiff, ↓reduceIte, reduceCtorEq, Bool.and_eq_true, Bool.or_eq_true, Bool.not_eq_true', Bool.not_eq_false', Bool.and_eq_false_iff, Bool.or_eq_false_iff, decide_eq_true_eq, decide_eq_false_iff_not, ha0, hb0, hb1]; omega) ?_
        refine h_ite (fun hc2 => ?_) (fun hc2 => ?_)
        · simp only [Env.sets, Env.set, BE.den, IE.den, DV.int, DV.bool, DV.list, Nat.reduceEqDiff, ↓reduceIte, reduceCtorEq, Bool.and_eq_true, Bool.or_eq_true, decide_eq_true_eq, ha0, hb0, hb1] at hc2
          rcases hc2 with h | h
          · omega
          · have := hap (by omega); omega
        · refine h_need (by simp only [Env.sets, Env.set, BE.den, IE.den, DV.int, DV.bool, DV.list, Nat.reduceEqDiff, ↓reduceIte, reduceCtorEq, Bool.and_eq_true, decide_eq_true_eq]; omega) (h_again ⟨⟨x, i + 1, ?_, by omega⟩, ?_⟩)
          · simp [Env.sets, Env.set, BE.den, IE.den, DE.den, DV.int, DV.bool]
          · simp only [Env.sets, Env.set, BE.den, IE.den, DE.den, DV.int, DV.bool, List.map_cons, List.map_nil, Nat.reduceEqDiff, ↓reduceIte, reduceCtorEq]
            omega
      · refine h_loop (fun ds => ∃ (x : Bool) (t k : Nat), ds = [.b x, .i t, .i k] ∧ t ≤ l.length ∧ k ≤ N ∧ ∀ i, i < t → fB l i ≤ k) (fun | [_, _, .i k] => ((N : Int) - k).toNat | _ => 0) ⟨x, 0, 0, by simp [Env.sets, Env.set, DE.den, BE.den, IE.den, DV.bool], by omega, by omega, fun i h => by omega⟩ ?_
        intro ds _ ⟨x2, t, k, hds, ht, hk, hB⟩
        subst hds
        refine h_ite (fun hc => ?_) (fun hc => ?_)
        · simp only [Env.sets, Env.set, BE.den, IE.den, DV.int, DV.list, Nat.reduceEqDiff, ↓reduceIte, reduceCtorEq, decide_eq_true_eq] at hc
          refine h_loop (fun ds => ∃ u : Nat, ds = [.i u] ∧ u ≤ l.length ∧ ∀ i, i < u → fB l i ≤ k) (fun | [.i u] => ((l.length : Int) - u).toNat | _ => 0) ⟨t, by simp [Env.sets, Env.set, DE.den, IE.den, DV.int], ht, hB⟩ ?_
          intro ds _ ⟨u, hds, hu, hBu⟩
          subst hds
          obtain ⟨b0, hb0⟩ : ∃ b0, cellAt l (u : Int) 1 = b0 := ⟨_, rfl⟩
          obtain ⟨a0, ha0⟩ : ∃ a0, cellAt l (u : Int) 0 = a0 := ⟨_, rfl⟩
          iterate 2 refine h_need (by simp only [Env.sets, Env.set, BE.den, IE.den, DV.int, DV.bool, DV.list, Nat.reduceEqDiff, ↓reduceIte, reduceCtorEq, Bool.and_eq_true, Bool.or_eq_true, Bool.not_eq_true', decide_eq_true_eq, decide_eq_false_iff_not]; omega) ?_
          refine h_ite (fun hc2 => ?_) (fun hc2 => ?_)
          · simp only [Env.sets, Env.set, BE.den, IE.den, DV.int, DV.bool, DV.list, Nat.reduceEqDiff, ↓reduceIte, reduceCtorEq, Bool.and_eq_true, decide_eq_true_eq, hb0] at hc2
            refine h_need (by simp only [Env.sets, Env.set, BE.den, IE.den, DV.int, DV.bool, DV.list, Nat.reduceEqDiff, ↓reduceIte, reduceCtorEq, Bool.and_eq_true, decide_eq_true_eq]; omega) (h_again ⟨⟨u + 1, ?_, by omega, fun i h => ?_⟩, ?_⟩)
            · simp [Env.sets, Env.set, BE.den, IE.den, DE.den, DV.int]
            · rcases Nat.lt_or_ge i u with g | g
              · exact hBu i g
              · have : i = u := by omega
                subst this
                unfold fB
                rw [hb0]; exact hc2.2
            · simp only [Env.sets, Env.set, BE.den, IE.den, DE.den, DV.int, DV.bool, List.map_cons, List.map_nil, Nat.reduceEqDiff, ↓reduceIte, reduceCtorEq]
              omega
          · simp only [Env.sets, Env.set, BE.den, IE.den, DV.int, DV.bool, DV.list, Nat.reduceEqDiff, ↓reduceIte, reduceCtorEq, Bool.and_eq_false_iff, decide_eq_false_iff_not, hb0] at hc2
            have hlit := hg.at' (k := k) (t := u) (by omega) hBu (fun h => by unfold fB; rw [hb0]; omega) hu
            unfold fA at hlit
            rw [ha0] at hlit
            refine h_call (c := c12) rfl (show litPre p r c (k : Int) from ⟨g1, g2, g3, g4, g5, by omega, by omega, by omega⟩) fun rs hk' hr => ?_
            have hr : rs = [.b (litB p r c k)] := hr
            subst hr
            iterate 2 refine h_need (by simp only [Env.sets, Env.set, BE.den, IE.den, DV.int, DV.bool, DV.list, Nat.reduceEqDiff, ↓reduceIte, reduceCtorEq, Bool.and_eq_true, Bool.or_eq_true, Bool.not_eq_true', decide_eq_true_eq, decide_eq_false_iff_not]; omega) ?_
            refine h_ite (fun hc3 => ?_) (fun hc3 => ?_)
            · simp only [Env.sets, Env.set, BE.den, IE.den, DV.int, DV.bool, DV.list, Nat.reduceEqDiff, ↓reduceIte, reduceCtorEq, ha0, hlit, Int.ofNat_lt, beq_self_eq_true, Bool.not_true, Bool.false_eq_true] at hc3
            · refine h_need (by simp only [Env.sets, Env.set, BE.den, IE.den, DV.int, DV.bool, DV.list, Nat.reduceEqDiff, ↓reduceIte, reduceCtorEq, Bool.and_eq_true, decide_eq_true_eq]; omega) (h_out (by omega) (h_again ⟨⟨x2, u, k + 1, ?_, hu, by omega, fun i h => by have := hBu i h; omega⟩, ?_⟩))
              · simp [Env.sets, Env.set, BE.den, IE.den, DE.den, DV.int, DV.bool]
              · simp only [Env.sets, Env.set, BE.den, IE.den, DE.den, DV.int, DV.bool, List.map_cons, List.map_nil, Nat.reduceEqDiff, ↓reduceIte, reduceCtorEq]
                omega
        · refine h_call (c := c8) rfl trivial fun rs hk hr => ?_
          have hr : rs = [.b true] := hr
          subst hr
          simp [Tree.holds, DE.den, BE.den, Env.sets, Env.set, DV.bool]
  · cases hp

theorem pre4 (dvs : List DV) (h : dvsIn (cts sg4.args) dvs) : c4.pre dvs := by
  simp only [sg4, cts, List.flatMap_cons, List.flatMap_nil, VT.cts, List.append_nil, List.cons_append, List.nil_append] at h
  match dvs, h with
  | [.i p, .i r, .i c, .i n], _ => exact trivial

end Go.Proofs.Ytbaapkffmloclaa.Fns
