/- Layer 15: the runs of lit pixels, as the functions reckon them. -/
import Derived.Test.YtbaapkffmloclaaRuns
set_option linter.unusedVariables false
set_option linter.unusedSimpArgs false
set_option maxRecDepth 10000
namespace Go.Proofs.Ytbaapkffmloclaa.Fns
open Go.Sx Go.Proofs.Ytbaapkffmloclaa.Trees

theorem div_eq {x q r : Int} (hr : 1 ≤ r) (h1 : q * r ≤ x) (h2 : x < (q + 1) * r) : x / r = q := by
  have a := (Int.le_ediv_iff_mul_le (by omega : 0 < r)).2 h1
  have b := (Int.ediv_lt_iff_lt_mul (by omega : 0 < r)).2 h2
  omega

theorem ext_set {l : List (List Int)} {a e : Int} (h : lastIs l a) : setAt l ((l.length : Int) - 1) 1 e = ext l a e := by rw [ext, if_pos h]
theorem ext_app {l : List (List Int)} {a e : Int} (h : ¬ lastIs l a) : l ++ [[a, e]] = ext l a e := by rw [ext, if_neg h]

theorem ok11 : ContractOk Try.prog 11 c11 := by
  refine contract_of (Γ := knownOf [(15, c15)]) (known_cons ok15 rfl known_nil) Try.func11 rfl rfl is11 fun ds hk hp => ?_
  split at hp
  · rename_i p r c n
    obtain ⟨⟨h1, h2, h3, h4, h5, h6, h7, h8⟩, h9, h10⟩ := hp
    refine h_loop (fun ds => ∃ a : Nat, ds = [.l (runsN p r c a), .i a] ∧ (a : Int) ≤ n) (fun | [_, .i i] => (n - i).toNat | _ => 0) ⟨0, by simp [DE.den, IE.den, runsN], by simpa using h7⟩ ?_
    intro ds _ ⟨a, hds, ha⟩
    subst hds
    have hlen := runsN_len p r c a
    refine h_ite (fun hc => ?_) (fun hc => ?_)
    · simp only [Env.sets, Env.set, BE.den, IE.den, DV.int, DV.list, Nat.reduceEqDiff, ↓reduceIte, reduceCtorEq, decide_eq_true_eq] at hc
      refine h_call (c := c15) rfl ?_ fun rs hk hr => ?_
      · show litPre p r c a
        exact ⟨h1, h2, h3, h4, h5, h6, by omega, by omega⟩
      · have hr : rs = [.b (litB p r c a)] := hr
        subst hr
        refine h_ite (fun hc2 => ?_) (fun hc2 => ?_)
        · simp only [Env.sets, Env.set, BE.den, IE.den, DV.int, DV.list, DV.bool, Nat.reduceEqDiff, ↓reduceIte, reduceCtorEq, Bool.not_eq_true'] at hc2
          refine h_need (by simp [Env.sets, Env.set, BE.den, IE.den, DV.int]; omega) (h_again ⟨⟨a + 1, ?_, by omega⟩, ?_⟩)
          · simp only [Env.sets, Env.set, BE.den, IE.den, DE.den, DV.int, DV.list, List.map_cons, List.map_nil, Nat.reduceEqDiff, ↓reduceIte, reduceCtorEq, runs_step, hc2, Bool.false_eq_true]
            simp
          · simp only [Env.sets, Env.set, BE.den, IE.den, DE.den, DV.int, DV.list, List.map_cons, List.map_nil, Nat.reduceEqDiff, ↓reduceIte, reduceCtorEq]
            omega
        · simp only [Env.sets, Env.set, BE.den, IE.den, DV.int, DV.list, DV.bool, Nat.reduceEqDiff, ↓reduceIte, reduceCtorEq, Bool.not_eq_false'] at hc2
          refine h_need (by simp only [Env.sets, Env.set, BE.den, IE.den, DV.int, DV.list, Nat.reduceEqDiff, ↓reduceIte, reduceCtorEq, Bool.or_eq_true, Bool.and_eq_true, Bool.not_eq_true', decide_eq_true_eq, decide_eq_false_iff_not]; omega) (h_need (by simp only [Env.sets, Env.set, BE.den, IE.den, DV.int, DV.list, Nat.reduceEqDiff, ↓reduceIte, reduceCtorEq, Bool.or_eq_true, Bool.and_eq_true, Bool.not_eq_true', decide_eq_true_eq, decide_eq_false_iff_not]; omega) (h_need (by simp only [Env.sets, Env.set, BE.den, IE.den, DV.int, DV.list, Nat.reduceEqDiff, ↓reduceIte, reduceCtorEq, Bool.or_eq_true, Bool.and_eq_true, Bool.not_eq_true', decide_eq_true_eq, decide_eq_false_iff_not]; omega) (h_ite (fun hc3 => ?_) (fun hc3 => ?_))))
          · simp only [Env.sets, Env.set, BE.den, IE.den, DV.int, DV.list, DV.bool, Nat.reduceEqDiff, ↓reduceIte, reduceCtorEq, Bool.and_eq_true, decide_eq_true_eq] at hc3
            have hl : lastIs (runsN p r c a) a := ⟨by omega, hc3.2⟩
            have hv : cellAt (runsN p r c a) ((runsN p r c a).length - 1) 1 = a := hc3.2
            refine h_need (by simp [Env.sets, Env.set, BE.den, IE.den, DV.int, DV.list]; omega) (h_need (by simp [Env.sets, Env.set, BE.den, IE.den, DV.int, DV.list]; omega) (h_need (by simp [Env.sets, Env.set, BE.den, IE.den, DV.int, DV.list]; omega)
              (h_need (by simp [Env.sets, Env.set, BE.den, IE.den, DV.int, DV.list, hv]; omega) (h_let (h_need (by simp [Env.sets, Env.set, BE.den, IE.den, DV.int, DV.list]; omega) (h_again ⟨⟨a + 1, ?_, by omega⟩, ?_⟩))))))
            · simp only [Env.sets, Env.set, BE.den, IE.den, DE.den, DV.int, DV.list, LOp.den, List.map_cons, List.map_nil, Nat.reduceEqDiff, ↓reduceIte, reduceCtorEq, runs_step, hc2, hv, ext_set hl]
              simp
            · simp only [Env.sets, Env.set, BE.den, IE.den, DE.den, DV.int, DV.list, List.map_cons, List.map_nil, Nat.reduceEqDiff, ↓reduceIte, reduceCtorEq]
              omega
          · simp only [Env.sets, Env.set, BE.den, IE.den, DV.int, DV.list, DV.bool, Nat.reduceEqDiff, ↓reduceIte, reduceCtorEq, Bool.and_eq_false_iff, decide_eq_false_iff_not] at hc3
            have hl : ¬ lastIs (runsN p r c a) a := fun h => by
              rcases hc3 with h' | h'
              · exact h' (by have := h.1; omega)
              · exact h' h.2
            refine h_need (by simp [Env.sets, Env.set, BE.den, IE.den, DV.int, DV.list]; omega) (h_let (h_need (by simp [Env.sets, Env.set, BE.den, IE.den, DV.int, DV.list, LOp.den]; omega) (h_let (h_need (by simp [Env.sets, Env.set, BE.den, IE.den, DV.int, DV.list]; omega) (h_again ⟨⟨a + 1, ?_, by omega⟩, ?_⟩)))))
            · simp only [Env.sets, Env.set, BE.den, IE.den, DE.den, DV.int, DV.list, LOp.den, List.map_cons, List.map_nil, Nat.reduceEqDiff, ↓reduceIte, reduceCtorEq, runs_step, hc2, ext_app hl]
              simp
            · simp only [Env.sets, Env.set, BE.den, IE.den, DE.den, DV.int, DV.list, List.map_cons, List.map_nil, Nat.reduceEqDiff, ↓reduceIte, reduceCtorEq]
              omega
    · simp only [Env.sets, Env.set, BE.den, IE.den, DV.int, DV.list, Nat.reduceEqDiff, ↓reduceIte, reduceCtorEq, decide_eq_false_iff_not] at hc
      have : n.toNat = a := by omega
      simp only [Tree.holds, Env.sets, Env.set, BE.den, IE.den, DE.den, DV.int, DV.list, List.map_cons, List.map_nil, Nat.reduceEqDiff, ↓reduceIte, reduceCtorEq, this]
  · cases hp

theorem ok10 : ContractOk Try.prog 10 c10 := by
  refine contract_of (Γ := knownOf [(18, c18)]) (known_cons ok18 rfl known_nil) Try.func10 rfl rfl is10 fun ds hk hp => ?_
  split at hp
  · rename_i p r c n
    obtain ⟨⟨h1, h2, h3, h4, h5, h6, h7, h8⟩, h9, h10⟩ := hp
    refine h_loop (fun ds => ∃ a : Nat, ds = [.l (runsN p r c a), .i a] ∧ (a : Int) ≤ n) (fun | [_, .i i] => (n - i).toNat | _ => 0) ⟨0, by simp [DE.den, IE.den, runsN], by simpa using h7⟩ ?_
    intro ds _ ⟨a, hds, ha⟩
    subst hds
    have hlen := runsN_len p r c a
    refine h_ite (fun hc => ?_) (fun hc => ?_)
    · simp only [Env.sets, Env.set, BE.den, IE.den, DV.int, DV.list, Nat.reduceEqDiff, ↓reduceIte, reduceCtorEq, decide_eq_true_eq] at hc
      obtain ⟨q, hq⟩ : ∃ q, (c + a) / r = q := ⟨_, rfl⟩
      obtain ⟨y, hy⟩ : ∃ y, (q + 1) * r = y := ⟨_, rfl⟩
      have hd : (c + (a : Int)).tdiv r = q := by rw [div_of_pos (by omega) h3, hq]
      obtain ⟨hr1, hr2⟩ := div_range (a := c + a) (b := r) (by omega) h3
      rw [hq] at hr1 hr2
      have hb1 : q * r ≤ c + a := by rw [← hq]; exact Int.ediv_mul_le _ (by omega)
      have hb2 : c + a < y := by rw [← hy, ← hq]; exact Int.lt_ediv_add_one_mul_self _ (by omega)
      have hyq : y = q * r + r := by rw [← hy, Int.add_mul, Int.one_mul]
      obtain ⟨e, he⟩ : ∃ e, min (y - c) n = e := ⟨_, rfl⟩
      have he1 : (a : Int) < e := by omega
      obtain ⟨m, hm⟩ : ∃ m : Nat, e = ((a + (m + 1) : Nat) : Int) := ⟨(e - a - 1).toNat, by omega⟩
      have hbit : ∀ k : Nat, a ≤ k → k < a + (m + 1) → litB p r c k = bitB p q := fun k g1 g2 => by
        unfold litB
        rw [div_eq h3 (q := q) (by omega) (by rw [hy]; omega)]
      refine h_need (by simp [Env.sets, Env.set, BE.den, IE.den, DV.int]; omega) (h_need (by simp [Env.sets, Env.set, BE.den, IE.den, DV.int]; omega) (h_need (by simp [Env.sets, Env.set, BE.den, IE.den, DV.int, hd]; omega) (h_need (by simp [Env.sets, Env.set, BE.den, IE.den, DV.int, hd]; omega)
        (h_need (by simp [Env.sets, Env.set, BE.den, IE.den, DV.int, hd, hy]; omega) (h_need (by simp [Env.sets, Env.set, BE.den, IE.den, DV.int, hd, hy]; omega) (h_call (c := c18) rfl trivial fun rs hk hr => ?_))))))
      simp only [c18, Env.sets, Env.set, BE.den, IE.den, DE.den, DV.int, List.map_cons, List.map_nil, Nat.reduceEqDiff, ↓reduceIte, reduceCtorEq, hd] at hr
      subst hr
      refine h_ite (fun hc2 => ?_) (fun hc2 => ?_)
      · simp only [Env.sets, Env.set, BE.den, IE.den, DV.int, DV.list, DV.bool, Nat.reduceEqDiff, ↓reduceIte, reduceCtorEq] at hc2
        have hrun := runs_lit (p := p) (r := r) (c := c) (a := a) (m := m) (fun k g1 g2 => by rw [hbit k g1 g2, hc2])
        rw [← hm] at hrun
        refine h_need (by simp only [Env.sets, Env.set, BE.den, IE.den, DV.int, DV.list, Nat.reduceEqDiff, ↓reduceIte, reduceCtorEq, Bool.or_eq_true, Bool.and_eq_true, Bool.not_eq_true', decide_eq_true_eq, decide_eq_false_iff_not]; omega) (h_need (by simp only [Env.sets, Env.set, BE.den, IE.den, DV.int, DV.list, Nat.reduceEqDiff, ↓reduceIte, reduceCtorEq, Bool.or_eq_true, Bool.and_eq_true, Bool.not_eq_true', decide_eq_true_eq, decide_eq_false_iff_not]; omega) (h_need (by simp only [Env.sets, Env.set, BE.den, IE.den, DV.int, DV.list, Nat.reduceEqDiff, ↓reduceIte, reduceCtorEq, Bool.or_eq_true, Bool.and_eq_true, Bool.not_eq_true', decide_eq_true_eq, decide_eq_false_iff_not]; omega) (h_ite (fun hc3 => ?_) (fun hc3 => ?_))))
        · simp only [Env.sets, Env.set, BE.den, IE.den, DV.int, DV.list, DV.bool, Nat.reduceEqDiff, ↓reduceIte, reduceCtorEq, Bool.and_eq_true, decide_eq_true_eq] at hc3
          have hl : lastIs (runsN p r c a) a := ⟨by omega, hc3.2⟩
          refine h_need (by simp [Env.sets, Env.set, BE.den, IE.den, DV.int, DV.list]; omega) (h_let (h_again ⟨⟨a + (m + 1), ?_, by omega⟩, ?_⟩))
          · simp only [Env.sets, Env.set, BE.den, IE.den, DE.den, DV.int, DV.list, LOp.den, List.map_cons, List.map_nil, Nat.reduceEqDiff, ↓reduceIte, reduceCtorEq, hd, hy, he, hrun, ext_set hl, hm]
          · simp only [Env.sets, Env.set, BE.den, IE.den, DE.den, DV.int, DV.list, List.map_cons, List.map_nil, Nat.reduceEqDiff, ↓reduceIte, reduceCtorEq, hd, hy, he]
            omega
        · simp only [Env.sets, Env.set, BE.den, IE.den, DV.int, DV.list, DV.bool, Nat.reduceEqDiff, ↓reduceIte, reduceCtorEq, Bool.and_eq_false_iff, decide_eq_false_iff_not] at hc3
          have hl : ¬ lastIs (runsN p r c a) a := fun h => by
            rcases hc3 with h' | h'
            · exact h' (by have := h.1; omega)
            · exact h' h.2
          refine h_let (h_need (by simp [Env.sets, Env.set, BE.den, IE.den, DV.int, DV.list, LOp.den]; omega) (h_let (h_again ⟨⟨a + (m + 1), ?_, by omega⟩, ?_⟩)))
          · simp only [Env.sets, Env.set, BE.den, IE.den, DE.den, DV.int, DV.list, LOp.den, List.map_cons, List.map_nil, Nat.reduceEqDiff, ↓reduceIte, reduceCtorEq, hd, hy, he, hrun, ext_app hl, hm]
          · simp only [Env.sets, Env.set, BE.den, IE.den, DE.den, DV.int, DV.list, List.map_cons, List.map_nil, Nat.reduceEqDiff, ↓reduceIte, reduceCtorEq, hd, hy, he]
            omega
      · simp only [Env.sets, Env.set, BE.den, IE.den, DV.int, DV.list, DV.bool, Nat.reduceEqDiff, ↓reduceIte, reduceCtorEq] at hc2
        have hrun := runs_dark (p := p) (r := r) (c := c) (a := a) (m := m + 1) (fun k g1 g2 => by rw [hbit k g1 g2, hc2])
        refine h_again ⟨⟨a + (m + 1), ?_, by omega⟩, ?_⟩
        · simp only [Env.sets, Env.set, BE.den, IE.den, DE.den, DV.int, DV.list, LOp.den, List.map_cons, List.map_nil, Nat.reduceEqDiff, ↓reduceIte, reduceCtorEq, hd, hy, he, hrun, hm]
        · simp only [Env.sets, Env.set, BE.den, IE.den, DE.den, DV.int, DV.list, List.map_cons, List.map_nil, Nat.reduceEqDiff, ↓reduceIte, reduceCtorEq, hd, hy, he]
          omega
    · simp only [Env.sets, Env.set, BE.den, IE.den, DV.int, DV.list, Nat.reduceEqDiff, ↓reduceIte, reduceCtorEq, decide_eq_false_iff_not] at hc
      have : n.toNat = a := by omega
      simp only [Tree.holds, Env.sets, Env.set, BE.den, IE.den, DE.den, DV.int, DV.list, List.map_cons, List.map_nil, Nat.reduceEqDiff, ↓reduceIte, reduceCtorEq, this]
  · cases hp

theorem ok8 : ContractOk Try.prog 8 c8 := by
  refine contract_of (Γ := knownOf [(13, c13), (12, c12), (10, c10), (9, c9)]) (known_cons ok13 rfl (known_cons ok12 rfl (known_cons ok10 rfl (known_cons ok9 rfl known_nil)))) Try.func8 rfl rfl is8 fun ds hk hp => ?_
  split at hp
  · refine h_call (c := c13) rfl (by simp [c13, DE.den, IE.den, in64]) fun rs hk hr => ?_
    have hr : rs = [.b true] := hr
    subst hr
    refine h_cally (c := c12) rfl (by simp [Env.sets, Env.set, BE.den, DV.bool]) (by simp [c12, DE.den, IE.den, litPre]) fun rs hk hr => ?_
    have hr : rs = [.b (litB 5 2 0 1)] := hr
    rw [show litB 5 2 0 1 = true by decide] at hr
    subst hr
    refine h_cally (c := c12) rfl (by simp [Env.sets, Env.set, BE.den, DV.bool]) (by simp [c12, DE.den, IE.den, litPre]) fun rs hk hr => ?_
    have hr : rs = [.b (litB 5 2 0 2)] := hr
    rw [show litB 5 2 0 2 = false by decide] at hr
    subst hr
    refine h_cally (c := c12) rfl (by simp [Env.sets, Env.set, BE.den, DV.bool]) (by simp [c12, DE.den, IE.den, litPre]) fun rs hk hr => ?_
    have hr : rs = [.b (litB 5 2 0 5)] := hr
    rw [show litB 5 2 0 5 = true by decide] at hr
    subst hr
    refine h_cally (c := c10) rfl (by simp [Env.sets, Env.set, BE.den, DV.bool]) (by simp [c10, DE.den, IE.den, litPre]) fun rs hk hr => ?_
    have hr : rs = [.l (runsN 5 2 0 9)] := hr
    rw [show runsN 5 2 0 9 = [[0, 2], [4, 6]] by decide] at hr
    subst hr
    refine h_let (h_cally (c := c9) rfl (by simp [Env.sets, Env.set, BE.den, DV.bool]) (by simp [c9, DE.den, Env.sets, Env.set, DV.list]) fun rs hk hr => ?_)
    have hr : rs = [.b (sameB [[0, 2], [4, 6]] [[0, 2], [4, 6]])] := hr
    rw [same_self] at hr
    subst hr
    simp [Tree.holds, DE.den, BE.den, Env.sets, Env.set, DV.bool]
  · cases hp

end Go.Proofs.Ytbaapkffmloclaa.Fns
