/- Layer 15: the runs of lit pixels. -/
import Derived.Test.YtbaapkffmloclaaFns
set_option linter.unusedVariables false
set_option linter.unusedSimpArgs false
set_option maxRecDepth 10000
namespace Go.Proofs.Ytbaapkffmloclaa.Fns
open Go.Sx Go.Proofs.Ytbaapkffmloclaa.Trees

/-! ### Plain -/
def lastIs (l : List (List Int)) (a : Int) : Prop := 0 < l.length ∧ cellAt l ((l.length : Int) - 1) 1 = a
instance (l : List (List Int)) (a : Int) : Decidable (lastIs l a) := inferInstanceAs (Decidable (_ ∧ _))
def ext (l : List (List Int)) (a e : Int) : List (List Int) := if lastIs l a then setAt l ((l.length : Int) - 1) 1 e else l ++ [[a, e]]
def runsN (p r c : Int) : Nat → List (List Int)
  | 0 => []
  | k + 1 => if litB p r c (k : Int) then ext (runsN p r c k) k (k + 1) else runsN p r c k

theorem setAt_len (l : List (List Int)) (i : Int) (j : Nat) (x : Int) : (setAt l i j x).length = l.length := by simp [setAt]

theorem ext_len (l : List (List Int)) (a e : Int) : (ext l a e).length ≤ l.length + 1 := by
  unfold ext
  split
  · rw [setAt_len]; omega
  · simp

theorem runsN_len (p r c : Int) : ∀ n, (runsN p r c n).length ≤ n := by
  intro n
  induction n with
  | zero => simp [runsN]
  | succ n ih =>
    simp only [runsN]
    split
    · have := ext_len (runsN p r c n) n (n + 1); omega
    · omega

theorem setPad_get (r : List Int) (j : Nat) (x : Int) : (setPad r j x).getD j 0 = x := by
  unfold setPad
  split
  · rename_i h; simp [List.getD, h]
  · rename_i h
    rw [List.getD_eq_getElem?_getD, List.getElem?_append_right (by omega), List.getElem?_append_right (by simp)]
    simp

theorem setPad_setPad (r : List Int) (j : Nat) (x y : Int) : setPad (setPad r j x) j y = setPad r j y := by
  by_cases h : j < r.length
  · have e : setPad r j x = r.set j x := by simp [setPad, h]
    have e2 : setPad r j y = r.set j y := by simp [setPad, h]
    rw [e, e2]
    simp [setPad, h]
  · have e : setPad r j x = r ++ (List.replicate (j - r.length) 0 ++ [x]) := by simp [setPad, h]
    have e2 : setPad r j y = r ++ (List.replicate (j - r.length) 0 ++ [y]) := by simp [setPad, h]
    rw [e, e2]
    have hl : j < (r ++ (List.replicate (j - r.length) 0 ++ [x])).length := by simp; omega
    simp only [setPad, hl, if_true]
    rw [← List.append_assoc, ← List.append_assoc, List.set_append_right _ _ (by simp; omega)]
    congr 1
    have : j - (r ++ List.replicate (j - r.length) 0).length = 0 := by simp; omega
    rw [this]
    rfl

theorem setAt_last (l : List (List Int)) (h : 0 < l.length) (x : Int) : lastIs (setAt l ((l.length : Int) - 1) 1 x) x := by
  refine ⟨by rw [setAt_len]; exact h, ?_⟩
  rw [setAt_len]
  have hi : ((l.length : Int) - 1).toNat = l.length - 1 := by omega
  have e : (l.modify (l.length - 1) fun r => setPad r 1 x).getD (l.length - 1) [] = setPad (l[l.length - 1]'(by omega)) 1 x := by
    rw [List.getD_eq_getElem?_getD, List.getElem?_modify]
    simp [List.getElem?_eq_getElem (show l.length - 1 < l.length by omega)]
  simp only [cellAt, setAt, hi, e]
  exact setPad_get _ _ _

theorem modify_app (l : List (List Int)) (x : List Int) (f : List Int → List Int) : (l ++ [x]).modify l.length f = l ++ [f x] := by
  induction l with
  | nil => rfl
  | cons y l ih => simp only [List.cons_append, List.length_cons, List.modify_succ_cons, ih]
theorem runs_step (p r c : Int) (k : Nat) : runsN p r c (k + 1) = if litB p r c (k : Int) then ext (runsN p r c k) k (k + 1) else runsN p r c k := rfl

theorem app_last (l : List (List Int)) (a e : Int) : lastIs (l ++ [[a, e]]) e := by
  refine ⟨by simp, ?_⟩
  have hi : ((((l ++ [[a, e]]).length : Nat) : Int) - 1).toNat = l.length := by simp
  simp only [cellAt, hi]
  simp [List.getD_eq_getElem?_getD]

theorem ext_last (l : List (List Int)) (a e : Int) : lastIs (ext l a e) e := by
  unfold ext
  split
  · rename_i h; exact setAt_last l h.1 e
  · exact app_last l a e

theorem ext_ext (l : List (List Int)) (a e f : Int) : ext (ext l a e) e f = ext l a f := by
  have h := ext_last l a e
  rw [ext, if_pos h]
  unfold ext
  split
  · rename_i hl
    rw [setAt_len]
    simp only [setAt, List.modify_modify_eq]
    congr 1
    funext r
    exact setPad_setPad r 1 e f
  · have hi : ((((l ++ [[a, e]]).length : Nat) : Int) - 1).toNat = l.length := by simp
    simp only [setAt, hi]
    rw [modify_app]
    simp [setPad]

/-- Where all are lit. -/
theorem runs_lit {p r c : Int} {a : Nat} : ∀ {m : Nat}, (∀ k : Nat, a ≤ k → k < a + (m + 1) → litB p r c k = true) → runsN p r c (a + (m + 1)) = ext (runsN p r c a) a ((a + (m + 1) : Nat) : Int) := by
  intro m
  induction m with
  | zero =>
    intro h
    rw [show a + (0 + 1) = a + 1 by omega, runs_step, if_pos (h a (Nat.le_refl _) (by omega))]
    rfl
  | succ m ih =>
    intro h
    have := ih (fun k h1 h2 => h k h1 (by omega))
    have e : runsN p r c (a + (m + 1 + 1)) = ext (runsN p r c (a + (m + 1))) ((a + (m + 1) : Nat) : Int) (((a + (m + 1) : Nat) : Int) + 1) := by
      rw [show a + (m + 1 + 1) = (a + (m + 1)) + 1 by omega, runs_step, if_pos (h _ (by omega) (by omega))]
    rw [e, this, ext_ext]
    rfl
/-- Where none is. -/
theorem runs_dark {p r c : Int} {a : Nat} : ∀ {m : Nat}, (∀ k : Nat, a ≤ k → k < a + m → litB p r c k = false) → runsN p r c (a + m) = runsN p r c a := by
  intro m
  induction m with
  | zero => intro _; rfl
  | succ m ih =>
    intro h
    rw [show a + (m + 1) = (a + m) + 1 by omega, runs_step, h (a + m) (by omega) (by omega)]
    exact ih (fun k h1 h2 => h k h1 (by omega))

def sameB (a b : List (List Int)) : Bool := decide (a.length = b.length) && (List.range a.length).all fun (j : Nat) => decide (cellAt a (j : Int) 0 = cellAt b (j : Int) 0) && decide (cellAt a (j : Int) 1 = cellAt b (j : Int) 1)
theorem same_self (a : List (List Int)) : sameB a a = true := by simp [sameB]

def c9 : Contract := CFn sg9 (fun | [.l a, .l b] => a.length ≤ 1000000000 | _ => False) (fun | [.l a, .l b] => [.b (sameB a b)] | _ => [])
def c10 : Contract := CFn sg10 (fun | [.i p, .i r, .i c, .i n] => litPre p r c n ∧ c ≤ 1099511627776 ∧ n ≤ 100000 | _ => False) (fun | [.i p, .i r, .i c, .i n] => [.l (runsN p r c n.toNat)] | _ => [])
def c11 : Contract := CFn sg11 (fun | [.i p, .i r, .i c, .i n] => litPre p r c n ∧ c ≤ 1099511627776 ∧ n ≤ 100000 | _ => False) (fun | [.i p, .i r, .i c, .i n] => [.l (runsN p r c n.toNat)] | _ => [])
def c8 : Contract := CFn sg8 (fun | [] => True | _ => False) (fun | [] => [.b true] | _ => [])

theorem ok9 : ContractOk Try.prog 9 c9 := by
  refine contract_of (Γ := knownOf []) known_nil Try.func9 rfl rfl is9 fun ds hk hp => ?_
  split at hp
  · rename_i a b
    refine h_ite (fun hc => ?_) (fun hc => ?_)
    · simp only [Env.sets, Env.set, BE.den, IE.den, DV.int, DV.list, Nat.reduceEqDiff, ↓reduceIte, reduceCtorEq, Bool.not_eq_true', decide_eq_false_iff_not] at hc
      have : a.length ≠ b.length := fun e => hc (by rw [e])
      simp [Tree.holds, DE.den, BE.den, sameB, this]
    · simp only [Env.sets, Env.set, BE.den, IE.den, DV.int, DV.list, Nat.reduceEqDiff, ↓reduceIte, reduceCtorEq, Bool.not_eq_false', decide_eq_true_eq] at hc
      have hl : a.length = b.length := by omega
      refine h_loop (fun ds => ∃ (x : Bool) (i : Nat), ds = [.b x, .i i] ∧ i ≤ a.length ∧ ∀ j : Nat, j < i → cellAt a j 0 = cellAt b j 0 ∧ cellAt a j 1 = cellAt b j 1) (fun | [_, .i i] => ((a.length : Int) - i).toNat | _ => 0) ⟨false, 0, by simp [DE.den, BE.den, IE.den], by omega, fun j h => by omega⟩ ?_
      intro ds _ ⟨x, i, hds, hi, hall⟩
      subst hds
      refine h_ite (fun hc => ?_) (fun hc => ?_)
      · simp only [Env.sets, Env.set, BE.den, IE.den, DV.int, DV.list, Nat.reduceEqDiff, ↓reduceIte, reduceCtorEq, decide_eq_true_eq] at hc
        refine h_need (by simp [Env.sets, Env.set, BE.den, IE.den, DV.int]) (h_need (by simp [Env.sets, Env.set, BE.den, IE.den, DV.int, DV.list]; omega) (h_ite (fun hd => ?_) (fun hd => ?_)))
        · simp only [Env.sets, Env.set, BE.den, IE.den, DV.int, DV.list, Nat.reduceEqDiff, ↓reduceIte, reduceCtorEq, Bool.not_eq_true', Bool.and_eq_false_iff, decide_eq_false_iff_not] at hd
          simp only [Tree.holds, List.map_cons, List.map_nil, DE.den, BE.den, List.cons.injEq, DV.b.injEq, and_true]
          symm
          simp only [sameB, Bool.and_eq_false_iff, List.all_eq_false, List.mem_range]
          refine .inr ⟨i, by omega, ?_⟩
          simp only [Bool.and_eq_true, decide_eq_true_eq]
          omega
        · simp only [Env.sets, Env.set, BE.den, IE.den, DV.int, DV.list, Nat.reduceEqDiff, ↓reduceIte, reduceCtorEq, Bool.not_eq_false', Bool.and_eq_true, decide_eq_true_eq] at hd
          refine h_need (by simp [Env.sets, Env.set, BE.den, IE.den, DV.int]; omega) (h_again ⟨⟨x, i + 1, ?_, by omega, fun j hj => ?_⟩, ?_⟩)
          · simp [Env.sets, Env.set, BE.den, IE.den, DE.den, DV.int, DV.bool]
          · rcases Nat.lt_or_ge j i with h | h
            · exact hall j h
            · have : j = i := by omega
              subst this; exact hd
          · simp only [Env.sets, Env.set, BE.den, IE.den, DE.den, DV.int, List.map_cons, List.map_nil, Nat.reduceEqDiff, ↓reduceIte, reduceCtorEq]
            omega
      · simp only [Env.sets, Env.set, BE.den, IE.den, DV.int, DV.list, Nat.reduceEqDiff, ↓reduceIte, reduceCtorEq, decide_eq_false_iff_not] at hc
        have : i = a.length := by omega
        subst this
        simp only [Tree.holds, List.map_cons, List.map_nil, DE.den, BE.den, List.cons.injEq, DV.b.injEq, and_true]
        symm
        simp only [sameB, Bool.and_eq_true, decide_eq_true_eq, List.all_eq_true, List.mem_range]
        exact ⟨hl, hall⟩
  · cases hp

end Go.Proofs.Ytbaapkffmloclaa.Fns
