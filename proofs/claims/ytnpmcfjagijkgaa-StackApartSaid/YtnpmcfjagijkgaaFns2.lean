/- Layer 6: the stacks' functions. -/
import Derived.Test.YtnpmcfjagijkgaaFns
set_option linter.unusedVariables false
set_option linter.unusedSimpArgs false
set_option maxRecDepth 10000
namespace Go.Proofs.Ytnpmcfjagijkgaa.Fns
open Go.Sx Go.Proofs.Ytnpmcfjagijkgaa.Trees

abbrev Rows := List (List Int)
def rowOf (a : Rows) (i : Int) : List Int := [cellAt a i 0, cellAt a i 1, cellAt a i 2, cellAt a i 3, cellAt a i 4, cellAt a i 5, cellAt a i 6, cellAt a i 7, cellAt a i 8, cellAt a i 9, cellAt a i 10, cellAt a i 11, cellAt a i 12, cellAt a i 13, cellAt a i 14, cellAt a i 15]
def rightL (a : Rows) : Prop := 1 ≤ a.length ∧ a.length ≤ 8 ∧ ∀ j : Nat, j < a.length → rightP (rowOf a (j : Int))
instance (a : Rows) : Decidable (rightL a) := inferInstanceAs (Decidable (_ ∧ _ ∧ _))
def rightS (m : Int) (a b : Rows) : Prop := (m = 0 ∨ m = 1) ∧ rightL a ∧ rightL b
instance (m : Int) (a b : Rows) : Decidable (rightS m a b) := inferInstanceAs (Decidable (_ ∧ _ ∧ _))
def cur (m : Int) (a b : Rows) : Rows := if m = 0 then a else b
def lastOf (a : Rows) : List Int := rowOf a ((a.length : Int) - 1)
def badS (e : Int) : List DV := [.i 0, .l [], .l [], .i e]
def topF (m : Int) (a b : Rows) (k : Int) : List DV := if rightS m a b ∧ 0 ≤ k ∧ k ≤ 1 then (lastOf (cur k a b)).map DV.i ++ [.i 0] else [.i 0, .i 0, .i 0, .i 0, .i 0, .i 0, .i 0, .i 0, .i 0, .i 0, .i 0, .i 0, .i 0, .i 0, .i 0, .i 0, .i 1]
def chooseF (m : Int) (a b : Rows) (k : Int) : List DV := if rightS m a b ∧ 0 ≤ k ∧ k ≤ 1 then [.i k, .l a, .l b, .i 0] else badS 1
def setLast (a : Rows) (x : List Int) : Rows := a.modify ((a.length : Int) - 1).toNat (fun _ => x)
def loadF (m : Int) (a b : Rows) (x : List Int) : List DV := if rightS m a b ∧ rightP x then (if m = 0 then [.i 0, .l (setLast a x), .l b, .i 0] else [.i 1, .l a, .l (setLast b x), .i 0]) else badS 1
def pushF (m : Int) (a b : Rows) : List DV := if rightS m a b then (if (cur m a b).length = 8 then badS 7 else if m = 0 then [.i 0, .l (a ++ [lastOf a]), .l b, .i 0] else [.i 1, .l a, .l (b ++ [lastOf b]), .i 0]) else badS 1
def cutLast (a : Rows) : Rows := a.take ((a.length : Int) - 1).toNat
def popF (m : Int) (a b : Rows) : List DV := if rightS m a b then (if (cur m a b).length = 1 then badS 7 else if m = 0 then [.i 0, .l (cutLast a), .l b, .i 0] else [.i 1, .l a, .l (cutLast b), .i 0]) else badS 1
def mulL (t x : List Int) : List Int := [mulI t x 0, mulI t x 1, mulI t x 2, mulI t x 3, mulI t x 4, mulI t x 5, mulI t x 6, mulI t x 7, mulI t x 8, mulI t x 9, mulI t x 10, mulI t x 11, mulI t x 12, mulI t x 13, mulI t x 14, mulI t x 15]
def multF (m : Int) (a b : Rows) (x : List Int) : List DV := if rightS m a b ∧ rightP x then (if mulE (lastOf (cur m a b)) x = 0 then loadF m a b (mulL (lastOf (cur m a b)) x) else badS (mulE (lastOf (cur m a b)) x)) else badS 1
def doF (m : Int) (a b : Rows) (k n : Int) (x : List Int) : List DV := if k = 0 then chooseF m a b n else if k = 1 then loadF m a b x else if k = 2 then multF m a b x else if k = 3 then pushF m a b else popF m a b
def cRightS (sg : Sig) : Contract := CFn sg (fun | [.i m, .l a, .l b] => True | _ => False) (fun | [.i m, .l a, .l b] => [.b (decide (rightS m a b))] | _ => [])
def cTop (sg : Sig) : Contract := CFn sg (fun | [.i m, .l a, .l b, .i k] => True | _ => False) (fun | [.i m, .l a, .l b, .i k] => topF m a b k | _ => [])
def cChoose (sg : Sig) : Contract := CFn sg (fun | [.i m, .l a, .l b, .i k] => True | _ => False) (fun | [.i m, .l a, .l b, .i k] => chooseF m a b k | _ => [])
def cLoad (sg : Sig) : Contract := CFn sg (fun | [.i m, .l a, .l b, .i x0, .i x1, .i x2, .i x3, .i x4, .i x5, .i x6, .i x7, .i x8, .i x9, .i x10, .i x11, .i x12, .i x13, .i x14, .i x15] => True | _ => False) (fun | [.i m, .l a, .l b, .i x0, .i x1, .i x2, .i x3, .i x4, .i x5, .i x6, .i x7, .i x8, .i x9, .i x10, .i x11, .i x12, .i x13, .i x14, .i x15] => loadF m a b [x0, x1, x2, x3, x4, x5, x6, x7, x8, x9, x10, x11, x12, x13, x14, x15] | _ => [])
def cMult (sg : Sig) : Contract := CFn sg (fun | [.i m, .l a, .l b, .i x0, .i x1, .i x2, .i x3, .i x4, .i x5, .i x6, .i x7, .i x8, .i x9, .i x10, .i x11, .i x12, .i x13, .i x14, .i x15] => True | _ => False) (fun | [.i m, .l a, .l b, .i x0, .i x1, .i x2, .i x3, .i x4, .i x5, .i x6, .i x7, .i x8, .i x9, .i x10, .i x11, .i x12, .i x13, .i x14, .i x15] => multF m a b [x0, x1, x2, x3, x4, x5, x6, x7, x8, x9, x10, x11, x12, x13, x14, x15] | _ => [])
def cPush (sg : Sig) : Contract := CFn sg (fun | [.i m, .l a, .l b] => True | _ => False) (fun | [.i m, .l a, .l b] => pushF m a b | _ => [])
def cPop (sg : Sig) : Contract := CFn sg (fun | [.i m, .l a, .l b] => True | _ => False) (fun | [.i m, .l a, .l b] => popF m a b | _ => [])
def cNew (sg : Sig) : Contract := CFn sg (fun | [] => True | _ => False) (fun | [] => [.i 0, .l [unitL], .l [unitL]] | _ => [])
def cOwn (sg : Sig) : Contract := CFn sg (fun | [.i m, .l a, .l b] => a.length ≤ 1000000000 ∧ b.length ≤ 1000000000 | _ => False) (fun | [.i m, .l a, .l b] => [.i m, .l a, .l b] | _ => [])
def cDo (sg : Sig) : Contract := CFn sg (fun | [.i m, .l a, .l b, .i k, .i n, .i x0, .i x1, .i x2, .i x3, .i x4, .i x5, .i x6, .i x7, .i x8, .i x9, .i x10, .i x11, .i x12, .i x13, .i x14, .i x15] => True | _ => False) (fun | [.i m, .l a, .l b, .i k, .i n, .i x0, .i x1, .i x2, .i x3, .i x4, .i x5, .i x6, .i x7, .i x8, .i x9, .i x10, .i x11, .i x12, .i x13, .i x14, .i x15] => doF m a b k n [x0, x1, x2, x3, x4, x5, x6, x7, x8, x9, x10, x11, x12, x13, x14, x15] | _ => [])
def cSame : Contract := CFn sg13 (fun | [.i m, .l a, .l b, .i m1, .l a1, .l b1] => (m1 = m ∧ a1 = a ∧ b1 = b) ∧ a.length ≤ 1000000000 ∧ b.length ≤ 1000000000 | _ => False) (fun | [.i m, .l a, .l b, .i m1, .l a1, .l b1] => [.b true] | _ => [])
def c7 : Contract := CFn sg7 (fun | [.i m, .l a, .l b] => True | _ => False) (fun | [.i m, .l a, .l b] => [.b (decide (a.length ≤ 12 ∧ b.length ≤ 12))] | _ => [])
theorem kinds4 {k1 k4 : IntKind} {n2 n3 : TypeId} {e2 e3 : List CK} {rs : List DV} (h : kinds [.c (.i k1), .s n2 e2, .s n3 e3, .c (.i k4)] rs = true) : ∃ m a b e, rs = [.i m, .l a, .l b, .i e] := by
  match rs, h with
  | [.i m, .l a, .l b, .i e], _ => exact ⟨m, a, b, e, rfl⟩
theorem rightS_mode {m : Int} {a b : Rows} (h : rightS m a b) : m = 0 ∨ m = 1 := h.1
theorem rightS_len {m : Int} {a b : Rows} (h : rightS m a b) : (1 ≤ a.length ∧ a.length ≤ 8) ∧ 1 ≤ b.length ∧ b.length ≤ 8 := ⟨⟨h.2.1.1, h.2.1.2.1⟩, h.2.2.1, h.2.2.2.1⟩
theorem topF_ok {m : Int} {a b : Rows} {k : Int} (h : rightS m a b) (h1 : 0 ≤ k) (h2 : k ≤ 1) : topF m a b k = (lastOf (cur k a b)).map DV.i ++ [.i 0] := by
  unfold topF; rw [if_pos ⟨h, h1, h2⟩]
theorem ok22 : ContractOk Try.prog 22 (cRightS sg22) := by
  refine contract_of (Γ := knownOf [(31, cRight sg31)]) (known_cons ok31 rfl known_nil) Try.func22 rfl rfl is22 fun ds hk hp => ?_
  split at hp
  · skip
    rename_i m a b
    refine h_ite (fun g => ?_) (fun g => ?_)
    · have g : (!decide (m = 0) && !decide (m = 1)) = true := g
      simp only [Env.sets, Env.set, BE.den, IE.den, DE.den, DV.int, DV.bool, DV.list, LOp.den, List.map_cons, List.map_nil, Nat.reduceEqDiff, ↓reduceIte, reduceCtorEq, Bool.and_eq_true, Bool.or_eq_true, Bool.not_eq_true', Bool.not_eq_false', Bool.and_eq_false_iff, Bool.or_eq_false_iff, decide_eq_true_eq, decide_eq_false_iff_not] at g
      exact retN fun h => by have := h.1; omega
    have g : (!decide (m = 0) && !decide (m = 1)) = false := g
    simp only [Env.sets, Env.set, BE.den, IE.den, DE.den, DV.int, DV.bool, DV.list, LOp.den, List.map_cons, List.map_nil, Nat.reduceEqDiff, ↓reduceIte, reduceCtorEq, Bool.and_eq_true, Bool.or_eq_true, Bool.not_eq_true', Bool.not_eq_false', Bool.and_eq_false_iff, Bool.or_eq_false_iff, decide_eq_true_eq, decide_eq_false_iff_not] at g
    refine h_ite (fun g0 => ?_) (fun g0 => ?_)
    · have g0 : (decide ((a.length : Int) < 1) || decide (8 < (a.length : Int))) = true := g0
      simp only [Env.sets, Env.set, BE.den, IE.den, DE.den, DV.int, DV.bool, DV.list, LOp.den, List.map_cons, List.map_nil, Nat.reduceEqDiff, ↓reduceIte, reduceCtorEq, Bool.and_eq_true, Bool.or_eq_true, Bool.not_eq_true', Bool.not_eq_false', Bool.and_eq_false_iff, Bool.or_eq_false_iff, decide_eq_true_eq, decide_eq_false_iff_not] at g0
      exact retN fun h => by have := h.2.1.1; have := h.2.1.2.1; omega
    have g0 : (decide ((a.length : Int) < 1) || decide (8 < (a.length : Int))) = false := g0
    simp only [Env.sets, Env.set, BE.den, IE.den, DE.den, DV.int, DV.bool, DV.list, LOp.den, List.map_cons, List.map_nil, Nat.reduceEqDiff, ↓reduceIte, reduceCtorEq, Bool.and_eq_true, Bool.or_eq_true, Bool.not_eq_true', Bool.not_eq_false', Bool.and_eq_false_iff, Bool.or_eq_false_iff, decide_eq_true_eq, decide_eq_false_iff_not] at g0
    refine h_loop (fun ds => ∃ (i : Nat) (x : Bool), ds = [.b x, .i i] ∧ i ≤ a.length ∧ ∀ j : Nat, j < i → rightP (rowOf a (j : Int))) (fun | _ :: .i i :: _ => ((a.length : Int) - i).toNat | _ => 0) ⟨0, _, rfl, by omega, fun j h => by omega⟩ ?_
    intro ds _ ⟨i, x, hds, hi, hall⟩
    subst hds
    refine h_ite (fun hc => ?_) (fun hc => ?_)
    · have hc : decide ((i : Int) < (a.length : Int)) = true := hc
      simp only [Env.sets, Env.set, BE.den, IE.den, DE.den, DV.int, DV.bool, DV.list, LOp.den, List.map_cons, List.map_nil, Nat.reduceEqDiff, ↓reduceIte, reduceCtorEq, Bool.and_eq_true, Bool.or_eq_true, Bool.not_eq_true', Bool.not_eq_false', Bool.and_eq_false_iff, Bool.or_eq_false_iff, decide_eq_true_eq, decide_eq_false_iff_not] at hc
      refine h_need (by simp only [Env.sets, Env.set, BE.den, IE.den, DE.den, DV.int, DV.bool, DV.list, LOp.den, List.map_cons, List.map_nil, Nat.reduceEqDiff, ↓reduceIte, reduceCtorEq, Bool.and_eq_true, Bool.or_eq_true, Bool.not_eq_true', Bool.not_eq_false', Bool.and_eq_false_iff, Bool.or_eq_false_iff, decide_eq_true_eq, decide_eq_false_iff_not]; omega) ?_
      refine h_call (c := cRight sg31) rfl trivial fun rs hk hr => ?_
      have hr : rs = [.b (decide (rightP (rowOf a (i : Int))))] := hr
      subst hr
      refine h_ite (fun g => ?_) (fun g => ?_)
      · have g : (!decide (rightP (rowOf a (i : Int)))) = true := g
        rw [Bool.not_eq_true', decide_eq_false_iff_not] at g
        exact retN fun h => g (h.2.1.2.2 i (by omega))
      · have g : (!decide (rightP (rowOf a (i : Int)))) = false := g
        rw [Bool.not_eq_false', decide_eq_true_eq] at g
        refine h_needR ((i : Int) + 1) rfl (by unfold ok64; omega) (h_again ⟨⟨i + 1, _, rfl, by omega, fun j hj => ?_⟩, ?_⟩)
        · rcases Nat.lt_or_ge j i with h | h
          · exact hall j h
          · have : j = i := by omega
            subst this; exact g
        · show ((a.length : Int) - ((i : Int) + 1)).toNat < ((a.length : Int) - (i : Int)).toNat
          omega
    · have hc : decide ((i : Int) < (a.length : Int)) = false := hc
      simp only [Env.sets, Env.set, BE.den, IE.den, DE.den, DV.int, DV.bool, DV.list, LOp.den, List.map_cons, List.map_nil, Nat.reduceEqDiff, ↓reduceIte, reduceCtorEq, Bool.and_eq_true, Bool.or_eq_true, Bool.not_eq_true', Bool.not_eq_false', Bool.and_eq_false_iff, Bool.or_eq_false_iff, decide_eq_true_eq, decide_eq_false_iff_not] at hc
      have : i = a.length := by omega
      subst this
      have hallA := hall
      clear hall
      refine h_ite (fun g1 => ?_) (fun g1 => ?_)
      · have g1 : (decide ((b.length : Int) < 1) || decide (8 < (b.length : Int))) = true := g1
        simp only [Env.sets, Env.set, BE.den, IE.den, DE.den, DV.int, DV.bool, DV.list, LOp.den, List.map_cons, List.map_nil, Nat.reduceEqDiff, ↓reduceIte, reduceCtorEq, Bool.and_eq_true, Bool.or_eq_true, Bool.not_eq_true', Bool.not_eq_false', Bool.and_eq_false_iff, Bool.or_eq_false_iff, decide_eq_true_eq, decide_eq_false_iff_not] at g1
        exact retN fun h => by have := h.2.2.1; have := h.2.2.2.1; omega
      have g1 : (decide ((b.length : Int) < 1) || decide (8 < (b.length : Int))) = false := g1
      simp only [Env.sets, Env.set, BE.den, IE.den, DE.den, DV.int, DV.bool, DV.list, LOp.den, List.map_cons, List.map_nil, Nat.reduceEqDiff, ↓reduceIte, reduceCtorEq, Bool.and_eq_true, Bool.or_eq_true, Bool.not_eq_true', Bool.not_eq_false', Bool.and_eq_false_iff, Bool.or_eq_false_iff, decide_eq_true_eq, decide_eq_false_iff_not] at g1
      refine h_loop (fun ds => ∃ (i : Nat) (x y : Bool), ds = [.b x, .i i, .b y] ∧ i ≤ b.length ∧ ∀ j : Nat, j < i → rightP (rowOf b (j : Int))) (fun | _ :: .i i :: _ => ((b.length : Int) - i).toNat | _ => 0) ⟨0, _, _, rfl, by omega, fun j h => by omega⟩ ?_
      intro ds _ ⟨i, x, y, hds, hi, hall⟩
      subst hds
      refine h_ite (fun hc => ?_) (fun hc => ?_)
      · have hc : decide ((i : Int) < (b.length : Int)) = true := hc
        simp only [Env.sets, Env.set, BE.den, IE.den, DE.den, DV.int, DV.bool, DV.list, LOp.den, List.map_cons, List.map_nil, Nat.reduceEqDiff, ↓reduceIte, reduceCtorEq, Bool.and_eq_true, Bool.or_eq_true, Bool.not_eq_true', Bool.not_eq_false', Bool.and_eq_false_iff, Bool.or_eq_false_iff, decide_eq_true_eq, decide_eq_false_iff_not] at hc
        refine h_need (by simp only [Env.sets, Env.set, BE.den, IE.den, DE.den, DV.int, DV.bool, DV.list, LOp.den, List.map_cons, List.map_nil, Nat.reduceEqDiff, ↓reduceIte, reduceCtorEq, Bool.and_eq_true, Bool.or_eq_true, Bool.not_eq_true', Bool.not_eq_false', Bool.and_eq_false_iff, Bool.or_eq_false_iff, decide_eq_true_eq, decide_eq_false_iff_not]; omega) ?_
        refine h_call (c := cRight sg31) rfl trivial fun rs hk hr => ?_
        have hr : rs = [.b (decide (rightP (rowOf b (i : Int))))] := hr
        subst hr
        refine h_ite (fun g => ?_) (fun g => ?_)
        · have g : (!decide (rightP (rowOf b (i : Int)))) = true := g
          rw [Bool.not_eq_true', decide_eq_false_iff_not] at g
          exact retN fun h => g (h.2.2.2.2 i (by omega))
        · have g : (!decide (rightP (rowOf b (i : Int)))) = false := g
          rw [Bool.not_eq_false', decide_eq_true_eq] at g
          refine h_needR ((i : Int) + 1) rfl (by unfold ok64; omega) (h_again ⟨⟨i + 1, _, _, rfl, by omega, fun j hj => ?_⟩, ?_⟩)
          · rcases Nat.lt_or_ge j i with h | h
            · exact hall j h
            · have : j = i := by omega
              subst this; exact g
          · show ((b.length : Int) - ((i : Int) + 1)).toNat < ((b.length : Int) - (i : Int)).toNat
            omega
      · have hc : decide ((i : Int) < (b.length : Int)) = false := hc
        simp only [Env.sets, Env.set, BE.den, IE.den, DE.den, DV.int, DV.bool, DV.list, LOp.den, List.map_cons, List.map_nil, Nat.reduceEqDiff, ↓reduceIte, reduceCtorEq, Bool.and_eq_true, Bool.or_eq_true, Bool.not_eq_true', Bool.not_eq_false', Bool.and_eq_false_iff, Bool.or_eq_false_iff, decide_eq_true_eq, decide_eq_false_iff_not] at hc
        have : i = b.length := by omega
        subst this
        exact retT ⟨by omega, ⟨by omega, by omega, hallA⟩, by omega, by omega, hall⟩
  · cases hp
theorem ok23 : ContractOk Try.prog 23 (cRightS sg23) := by
  refine contract_of (Γ := knownOf [(28, cRight sg28)]) (known_cons ok28 rfl known_nil) Try.func23 rfl rfl is23 fun ds hk hp => ?_
  split at hp
  · skip
    rename_i m a b
    refine h_ite (fun g => ?_) (fun g => ?_)
    · have g : (!decide (m = 0) && !decide (m = 1)) = true := g
      simp only [Env.sets, Env.set, BE.den, IE.den, DE.den, DV.int, DV.bool, DV.list, LOp.den, List.map_cons, List.map_nil, Nat.reduceEqDiff, ↓reduceIte, reduceCtorEq, Bool.and_eq_true, Bool.or_eq_true, Bool.not_eq_true', Bool.not_eq_false', Bool.and_eq_false_iff, Bool.or_eq_false_iff, decide_eq_true_eq, decide_eq_false_iff_not] at g
      exact retN fun h => by have := h.1; omega
    have g : (!decide (m = 0) && !decide (m = 1)) = false := g
    simp only [Env.sets, Env.set, BE.den, IE.den, DE.den, DV.int, DV.bool, DV.list, LOp.den, List.map_cons, List.map_nil, Nat.reduceEqDiff, ↓reduceIte, reduceCtorEq, Bool.and_eq_true, Bool.or_eq_true, Bool.not_eq_true', Bool.not_eq_false', Bool.and_eq_false_iff, Bool.or_eq_false_iff, decide_eq_true_eq, decide_eq_false_iff_not] at g
    refine h_ite (fun g0 => ?_) (fun g0 => ?_)
    · have g0 : (decide ((a.length : Int) < 1) || decide (8 < (a.length : Int))) = true := g0
      simp only [Env.sets, Env.set, BE.den, IE.den, DE.den, DV.int, DV.bool, DV.list, LOp.den, List.map_cons, List.map_nil, Nat.reduceEqDiff, ↓reduceIte, reduceCtorEq, Bool.and_eq_true, Bool.or_eq_true, Bool.not_eq_true', Bool.not_eq_false', Bool.and_eq_false_iff, Bool.or_eq_false_iff, decide_eq_true_eq, decide_eq_false_iff_not] at g0
      exact retN fun h => by have := h.2.1.1; have := h.2.1.2.1; omega
    have g0 : (decide ((a.length : Int) < 1) || decide (8 < (a.length : Int))) = false := g0
    simp only [Env.sets, Env.set, BE.den, IE.den, DE.den, DV.int, DV.bool, DV.list, LOp.den, List.map_cons, List.map_nil, Nat.reduceEqDiff, ↓reduceIte, reduceCtorEq, Bool.and_eq_true, Bool.or_eq_true, Bool.not_eq_true', Bool.not_eq_false', Bool.and_eq_false_iff, Bool.or_eq_false_iff, decide_eq_true_eq, decide_eq_false_iff_not] at g0
    refine h_loop (fun ds => ∃ (i : Nat) (x : Bool), ds = [.b x, .i i] ∧ i ≤ a.length ∧ ∀ j : Nat, j < i → rightP (rowOf a (j : Int))) (fun | _ :: .i i :: _ => ((a.length : Int) - i).toNat | _ => 0) ⟨0, _, rfl, by omega, fun j h => by omega⟩ ?_
    intro ds _ ⟨i, x, hds, hi, hall⟩
    subst hds
    refine h_ite (fun hc => ?_) (fun hc => ?_)
    · have hc : decide ((i : Int) < (a.length : Int)) = true := hc
      simp only [Env.sets, Env.set, BE.den, IE.den, DE.den, DV.int, DV.bool, DV.list, LOp.den, List.map_cons, List.map_nil, Nat.reduceEqDiff, ↓reduceIte, reduceCtorEq, Bool.and_eq_true, Bool.or_eq_true, Bool.not_eq_true', Bool.not_eq_false', Bool.and_eq_false_iff, Bool.or_eq_false_iff, decide_eq_true_eq, decide_eq_false_iff_not] at hc
      refine h_need (by simp only [Env.sets, Env.set, BE.den, IE.den, DE.den, DV.int, DV.bool, DV.list, LOp.den, List.map_cons, List.map_nil, Nat.reduceEqDiff, ↓reduceIte, reduceCtorEq, Bool.and_eq_true, Bool.or_eq_true, Bool.not_eq_true', Bool.not_eq_false', Bool.and_eq_false_iff, Bool.or_eq_false_iff, decide_eq_true_eq, decide_eq_false_iff_not]; omega) ?_
      refine h_call (c := cRight sg28) rfl trivial fun rs hk hr => ?_
      have hr : rs = [.b (decide (rightP (rowOf a (i : Int))))] := hr
      subst hr
      refine h_ite (fun g => ?_) (fun g => ?_)
      · have g : (!decide (rightP (rowOf a (i : Int)))) = true := g
        rw [Bool.not_eq_true', decide_eq_false_iff_not] at g
        exact retN fun h => g (h.2.1.2.2 i (by omega))
      · have g : (!decide (rightP (rowOf a (i : Int)))) = false := g
        rw [Bool.not_eq_false', decide_eq_true_eq] at g
        refine h_needR ((i : Int) + 1) rfl (by unfold ok64; omega) (h_again ⟨⟨i + 1, _, rfl, by omega, fun j hj => ?_⟩, ?_⟩)
        · rcases Nat.lt_or_ge j i with h | h
          · exact hall j h
          · have : j = i := by omega
            subst this; exact g
        · show ((a.length : Int) - ((i : Int) + 1)).toNat < ((a.length : Int) - (i : Int)).toNat
          omega
    · have hc : decide ((i : Int) < (a.length : Int)) = false := hc
      simp only [Env.sets, Env.set, BE.den, IE.den, DE.den, DV.int, DV.bool, DV.list, LOp.den, List.map_cons, List.map_nil, Nat.reduceEqDiff, ↓reduceIte, reduceCtorEq, Bool.and_eq_true, Bool.or_eq_true, Bool.not_eq_true', Bool.not_eq_false', Bool.and_eq_false_iff, Bool.or_eq_false_iff, decide_eq_true_eq, decide_eq_false_iff_not] at hc
      have : i = a.length := by omega
      subst this
      have hallA := hall
      clear hall
      refine h_ite (fun g1 => ?_) (fun g1 => ?_)
      · have g1 : (decide ((b.length : Int) < 1) || decide (8 < (b.length : Int))) = true := g1
        simp only [Env.sets, Env.set, BE.den, IE.den, DE.den, DV.int, DV.bool, DV.list, LOp.den, List.map_cons, List.map_nil, Nat.reduceEqDiff, ↓reduceIte, reduceCtorEq, Bool.and_eq_true, Bool.or_eq_true, Bool.not_eq_true', Bool.not_eq_false', Bool.and_eq_false_iff, Bool.or_eq_false_iff, decide_eq_true_eq, decide_eq_false_iff_not] at g1
        exact retN fun h => by have := h.2.2.1; have := h.2.2.2.1; omega
      have g1 : (decide ((b.length : Int) < 1) || decide (8 < (b.length : Int))) = false := g1
      simp only [Env.sets, Env.set, BE.den, IE.den, DE.den, DV.int, DV.bool, DV.list, LOp.den, List.map_cons, List.map_nil, Nat.reduceEqDiff, ↓reduceIte, reduceCtorEq, Bool.and_eq_true, Bool.or_eq_true, Bool.not_eq_true', Bool.not_eq_false', Bool.and_eq_false_iff, Bool.or_eq_false_iff, decide_eq_true_eq, decide_eq_false_iff_not] at g1
      refine h_loop (fun ds => ∃ (i : Nat) (x : Bool) (p q r : Int) (y : Bool), ds = [.b x, .i i, .i p, .i q, .i r, .b y] ∧ i ≤ b.length ∧ ∀ j : Nat, j < i → rightP (rowOf b (j : Int))) (fun | _ :: .i i :: _ => ((b.length : Int) - i).toNat | _ => 0) ⟨0, _, _, _, _, _, rfl, by omega, fun j h => by omega⟩ ?_
      intro ds _ ⟨i, x, p, q, r, y, hds, hi, hall⟩
      subst hds
      refine h_ite (fun hc => ?_) (fun hc => ?_)
      · have hc : decide ((i : Int) < (b.length : Int)) = true := hc
        simp only [Env.sets, Env.set, BE.den, IE.den, DE.den, DV.int, DV.bool, DV.list, LOp.den, List.map_cons, List.map_nil, Nat.reduceEqDiff, ↓reduceIte, reduceCtorEq, Bool.and_eq_true, Bool.or_eq_true, Bool.not_eq_true', Bool.not_eq_false', Bool.and_eq_false_iff, Bool.or_eq_false_iff, decide_eq_true_eq, decide_eq_false_iff_not] at hc
        refine h_need (by simp only [Env.sets, Env.set, BE.den, IE.den, DE.den, DV.int, DV.bool, DV.list, LOp.den, List.map_cons, List.map_nil, Nat.reduceEqDiff, ↓reduceIte, reduceCtorEq, Bool.and_eq_true, Bool.or_eq_true, Bool.not_eq_true', Bool.not_eq_false', Bool.and_eq_false_iff, Bool.or_eq_false_iff, decide_eq_true_eq, decide_eq_false_iff_not]; omega) ?_
        refine h_call (c := cRight sg28) rfl trivial fun rs hk hr => ?_
        have hr : rs = [.b (decide (rightP (rowOf b (i : Int))))] := hr
        subst hr
        refine h_ite (fun g => ?_) (fun g => ?_)
        · have g : (!decide (rightP (rowOf b (i : Int)))) = true := g
          rw [Bool.not_eq_true', decide_eq_false_iff_not] at g
          exact retN fun h => g (h.2.2.2.2 i (by omega))
        · have g : (!decide (rightP (rowOf b (i : Int)))) = false := g
          rw [Bool.not_eq_false', decide_eq_true_eq] at g
          refine h_needR ((i : Int) + 1) rfl (by unfold ok64; omega) (h_again ⟨⟨i + 1, _, _, _, _, _, rfl, by omega, fun j hj => ?_⟩, ?_⟩)
          · rcases Nat.lt_or_ge j i with h | h
            · exact hall j h
            · have : j = i := by omega
              subst this; exact g
          · show ((b.length : Int) - ((i : Int) + 1)).toNat < ((b.length : Int) - (i : Int)).toNat
            omega
      · have hc : decide ((i : Int) < (b.length : Int)) = false := hc
        simp only [Env.sets, Env.set, BE.den, IE.den, DE.den, DV.int, DV.bool, DV.list, LOp.den, List.map_cons, List.map_nil, Nat.reduceEqDiff, ↓reduceIte, reduceCtorEq, Bool.and_eq_true, Bool.or_eq_true, Bool.not_eq_true', Bool.not_eq_false', Bool.and_eq_false_iff, Bool.or_eq_false_iff, decide_eq_true_eq, decide_eq_false_iff_not] at hc
        have : i = b.length := by omega
        subst this
        exact retT ⟨by omega, ⟨by omega, by omega, hallA⟩, by omega, by omega, hall⟩
  · cases hp
theorem ok14 : ContractOk Try.prog 14 (cTop sg14) := by
  refine contract_of (Γ := knownOf [(22, cRightS sg22)]) (known_cons ok22 rfl known_nil) Try.func14 rfl rfl is14 fun ds hk hp => ?_
  split at hp
  · skip
    rename_i m a b k
    refine h_call (c := cRightS sg22) rfl trivial fun rs hk hr => ?_
    have hr : rs = [.b (decide (rightS m a b))] := hr
    subst hr
    refine h_ite (fun g => ?_) (fun g => ?_)
    · have g : ((!decide (rightS m a b) || decide (k < 0)) || decide (1 < k)) = true := g
      show _ = topF m a b k
      unfold topF
      rw [if_neg (fun h => by have h1 := h.1; simp [h1] at g; omega)]
      rfl
    have g : ((!decide (rightS m a b) || decide (k < 0)) || decide (1 < k)) = false := g
    simp only [Bool.or_eq_false_iff, Bool.not_eq_false', decide_eq_true_eq, decide_eq_false_iff_not] at g
    obtain ⟨⟨hR, hk1⟩, hk2⟩ := g
    have hl := rightS_len hR
    refine h_ite (fun g => ?_) (fun g => ?_)
    · have g : decide (k = 0) = true := g
      rw [decide_eq_true_eq] at g
      subst g
      refine h_needR ((a.length : Int) - 1) rfl (by unfold ok64; omega) ?_
      iterate 2 refine h_need (by simp only [Env.sets, Env.set, BE.den, IE.den, DE.den, DV.int, DV.bool, DV.list, LOp.den, List.map_cons, List.map_nil, Nat.reduceEqDiff, ↓reduceIte, reduceCtorEq, Bool.and_eq_true, Bool.or_eq_true, Bool.not_eq_true', Bool.not_eq_false', Bool.and_eq_false_iff, Bool.or_eq_false_iff, decide_eq_true_eq, decide_eq_false_iff_not]; omega) ?_
      show _ = topF m a b 0
      rw [topF_ok hR (by omega) (by omega)]
      rfl
    have g : decide (k = 0) = false := g
    rw [decide_eq_false_iff_not] at g
    refine h_ite (fun g1 => ?_) (fun g1 => ?_)
    · have g1 : decide (k = 1) = true := g1
      rw [decide_eq_true_eq] at g1
      subst g1
      refine h_needR ((b.length : Int) - 1) rfl (by unfold ok64; omega) ?_
      iterate 2 refine h_need (by simp only [Env.sets, Env.set, BE.den, IE.den, DE.den, DV.int, DV.bool, DV.list, LOp.den, List.map_cons, List.map_nil, Nat.reduceEqDiff, ↓reduceIte, reduceCtorEq, Bool.and_eq_true, Bool.or_eq_true, Bool.not_eq_true', Bool.not_eq_false', Bool.and_eq_false_iff, Bool.or_eq_false_iff, decide_eq_true_eq, decide_eq_false_iff_not]; omega) ?_
      show _ = topF m a b 1
      rw [topF_ok hR (by omega) (by omega)]
      rfl
    have g1 : decide (k = 1) = false := g1
    rw [decide_eq_false_iff_not] at g1
    exact absurd hk1 (by omega)
  · cases hp
theorem ok15 : ContractOk Try.prog 15 (cTop sg15) := by
  refine contract_of (Γ := knownOf [(23, cRightS sg23)]) (known_cons ok23 rfl known_nil) Try.func15 rfl rfl is15 fun ds hk hp => ?_
  split at hp
  · skip
    rename_i m a b k
    refine h_call (c := cRightS sg23) rfl trivial fun rs hk hr => ?_
    have hr : rs = [.b (decide (rightS m a b))] := hr
    subst hr
    refine h_ite (fun g => ?_) (fun g => ?_)
    · have g : ((!decide (rightS m a b) || decide (k < 0)) || decide (1 < k)) = true := g
      show _ = topF m a b k
      unfold topF
      rw [if_neg (fun h => by have h1 := h.1; simp [h1] at g; omega)]
      rfl
    have g : ((!decide (rightS m a b) || decide (k < 0)) || decide (1 < k)) = false := g
    simp only [Bool.or_eq_false_iff, Bool.not_eq_false', decide_eq_true_eq, decide_eq_false_iff_not] at g
    obtain ⟨⟨hR, hk1⟩, hk2⟩ := g
    have hl := rightS_len hR
    refine h_ite (fun g => ?_) (fun g => ?_)
    · have g : decide (k = 0) = true := g
      rw [decide_eq_true_eq] at g
      subst g
      refine h_needR ((a.length : Int) - 1) rfl (by unfold ok64; omega) ?_
      iterate 2 refine h_need (by simp only [Env.sets, Env.set, BE.den, IE.den, DE.den, DV.int, DV.bool, DV.list, LOp.den, List.map_cons, List.map_nil, Nat.reduceEqDiff, ↓reduceIte, reduceCtorEq, Bool.and_eq_true, Bool.or_eq_true, Bool.not_eq_true', Bool.not_eq_false', Bool.and_eq_false_iff, Bool.or_eq_false_iff, decide_eq_true_eq, decide_eq_false_iff_not]; omega) ?_
      show _ = topF m a b 0
      rw [topF_ok hR (by omega) (by omega)]
      rfl
    have g : decide (k = 0) = false := g
    rw [decide_eq_false_iff_not] at g
    refine h_ite (fun g1 => ?_) (fun g1 => ?_)
    · have g1 : decide (k = 1) = true := g1
      rw [decide_eq_true_eq] at g1
      subst g1
      refine h_needR ((b.length : Int) - 1) rfl (by unfold ok64; omega) ?_
      iterate 2 refine h_need (by simp only [Env.sets, Env.set, BE.den, IE.den, DE.den, DV.int, DV.bool, DV.list, LOp.den, List.map_cons, List.map_nil, Nat.reduceEqDiff, ↓reduceIte, reduceCtorEq, Bool.and_eq_true, Bool.or_eq_true, Bool.not_eq_true', Bool.not_eq_false', Bool.and_eq_false_iff, Bool.or_eq_false_iff, decide_eq_true_eq, decide_eq_false_iff_not]; omega) ?_
      show _ = topF m a b 1
      rw [topF_ok hR (by omega) (by omega)]
      rfl
    have g1 : decide (k = 1) = false := g1
    rw [decide_eq_false_iff_not] at g1
    exact absurd hk1 (by omega)
  · cases hp
theorem ok30 : ContractOk Try.prog 30 (cOwn sg30) := by
  refine contract_of (Γ := knownOf []) known_nil Try.func30 rfl rfl is30 fun ds hk hp => ?_
  split at hp
  · skip
    rename_i m a b
    obtain ⟨ha, hb⟩ := hp
    refine h_letE (M := []) rfl ?_
    refine h_need (by simp only [Env.sets, Env.set, BE.den, IE.den, DE.den, DV.int, DV.bool, DV.list, LOp.den, List.map_cons, List.map_nil, Nat.reduceEqDiff, ↓reduceIte, reduceCtorEq, Bool.and_eq_true, Bool.or_eq_true, Bool.not_eq_true', Bool.not_eq_false', Bool.and_eq_false_iff, Bool.or_eq_false_iff, decide_eq_true_eq, decide_eq_false_iff_not, List.length_nil]; omega) ?_
    refine h_letE (M := a) rfl ?_
    refine h_letE (M := []) rfl ?_
    refine h_need (by simp only [Env.sets, Env.set, BE.den, IE.den, DE.den, DV.int, DV.bool, DV.list, LOp.den, List.map_cons, List.map_nil, Nat.reduceEqDiff, ↓reduceIte, reduceCtorEq, Bool.and_eq_true, Bool.or_eq_true, Bool.not_eq_true', Bool.not_eq_false', Bool.and_eq_false_iff, Bool.or_eq_false_iff, decide_eq_true_eq, decide_eq_false_iff_not, List.length_nil]; omega) ?_
    refine h_letE (M := b) rfl ?_
    rfl
  · cases hp
theorem ok33 : ContractOk Try.prog 33 (cOwn sg33) := by
  refine contract_of (Γ := knownOf []) known_nil Try.func33 rfl rfl is33 fun ds hk hp => ?_
  split at hp
  · skip
    rename_i m a b
    obtain ⟨ha, hb⟩ := hp
    refine h_letE (M := []) rfl ?_
    refine h_need (by simp only [Env.sets, Env.set, BE.den, IE.den, DE.den, DV.int, DV.bool, DV.list, LOp.den, List.map_cons, List.map_nil, Nat.reduceEqDiff, ↓reduceIte, reduceCtorEq, Bool.and_eq_true, Bool.or_eq_true, Bool.not_eq_true', Bool.not_eq_false', Bool.and_eq_false_iff, Bool.or_eq_false_iff, decide_eq_true_eq, decide_eq_false_iff_not, List.length_nil]; omega) ?_
    refine h_letE (M := a) rfl ?_
    refine h_letE (M := []) rfl ?_
    refine h_need (by simp only [Env.sets, Env.set, BE.den, IE.den, DE.den, DV.int, DV.bool, DV.list, LOp.den, List.map_cons, List.map_nil, Nat.reduceEqDiff, ↓reduceIte, reduceCtorEq, Bool.and_eq_true, Bool.or_eq_true, Bool.not_eq_true', Bool.not_eq_false', Bool.and_eq_false_iff, Bool.or_eq_false_iff, decide_eq_true_eq, decide_eq_false_iff_not, List.length_nil]; omega) ?_
    refine h_letE (M := b) rfl ?_
    rfl
  · cases hp
theorem ok16 : ContractOk Try.prog 16 (cChoose sg16) := by
  refine contract_of (Γ := knownOf [(22, cRightS sg22), (30, cOwn sg30)]) (known_cons ok22 rfl (known_cons ok30 rfl known_nil)) Try.func16 rfl rfl is16 fun ds hk hp => ?_
  split at hp
  · skip
    rename_i m a b k
    refine h_call (c := cRightS sg22) rfl trivial fun rs hk hr => ?_
    have hr : rs = [.b (decide (rightS m a b))] := hr
    subst hr
    refine h_ite (fun g => ?_) (fun g => ?_)
    · have g : ((!decide (rightS m a b) || decide (k < 0)) || decide (1 < k)) = true := g
      show _ = chooseF m a b k
      unfold chooseF
      rw [if_neg (fun h => by have h1 := h.1; simp [h1] at g; omega)]
      rfl
    have g : ((!decide (rightS m a b) || decide (k < 0)) || decide (1 < k)) = false := g
    simp only [Bool.or_eq_false_iff, Bool.not_eq_false', decide_eq_true_eq, decide_eq_false_iff_not] at g
    obtain ⟨⟨hR, hk1⟩, hk2⟩ := g
    have hl := rightS_len hR
    refine h_call (c := cOwn sg30) rfl (show a.length ≤ 1000000000 ∧ b.length ≤ 1000000000 by omega) fun rs hk hr => ?_
    have hr : rs = [.i m, .l a, .l b] := hr
    subst hr
    show _ = chooseF m a b k
    unfold chooseF
    rw [if_pos ⟨hR, by omega, by omega⟩]
    rfl
  · cases hp
theorem ok17 : ContractOk Try.prog 17 (cChoose sg17) := by
  refine contract_of (Γ := knownOf [(23, cRightS sg23), (33, cOwn sg33)]) (known_cons ok23 rfl (known_cons ok33 rfl known_nil)) Try.func17 rfl rfl is17 fun ds hk hp => ?_
  split at hp
  · skip
    rename_i m a b k
    refine h_call (c := cRightS sg23) rfl trivial fun rs hk hr => ?_
    have hr : rs = [.b (decide (rightS m a b))] := hr
    subst hr
    refine h_ite (fun g => ?_) (fun g => ?_)
    · have g : ((!decide (rightS m a b) || decide (k < 0)) || decide (1 < k)) = true := g
      show _ = chooseF m a b k
      unfold chooseF
      rw [if_neg (fun h => by have h1 := h.1; simp [h1] at g; omega)]
      rfl
    have g : ((!decide (rightS m a b) || decide (k < 0)) || decide (1 < k)) = false := g
    simp only [Bool.or_eq_false_iff, Bool.not_eq_false', decide_eq_true_eq, decide_eq_false_iff_not] at g
    obtain ⟨⟨hR, hk1⟩, hk2⟩ := g
    have hl := rightS_len hR
    refine h_call (c := cOwn sg33) rfl (show a.length ≤ 1000000000 ∧ b.length ≤ 1000000000 by omega) fun rs hk hr => ?_
    have hr : rs = [.i m, .l a, .l b] := hr
    subst hr
    show _ = chooseF m a b k
    unfold chooseF
    rw [if_pos ⟨hR, by omega, by omega⟩]
    rfl
  · cases hp
theorem ok10 : ContractOk Try.prog 10 (cLoad sg10) := by
  refine contract_of (Γ := knownOf [(22, cRightS sg22), (31, cRight sg31), (30, cOwn sg30)]) (known_cons ok22 rfl (known_cons ok31 rfl (known_cons ok30 rfl known_nil))) Try.func10 rfl rfl is10 fun ds hk hp => ?_
  split at hp
  · skip
    rename_i m a b x0 x1 x2 x3 x4 x5 x6 x7 x8 x9 x10 x11 x12 x13 x14 x15
    refine h_call (c := cRightS sg22) rfl trivial fun rs hk hr => ?_
    have hr : rs = [.b (decide (rightS m a b))] := hr
    subst hr
    refine h_callg (c := cRight sg31) rfl (fun _ => trivial) fun rs hk hr2 => ?_
    obtain ⟨i2, rfl⟩ := kinds1b hk
    have hr2 : decide (rightS m a b) = true → [DV.b i2] = [DV.b (decide (rightP [x0, x1, x2, x3, x4, x5, x6, x7, x8, x9, x10, x11, x12, x13, x14, x15]))] := hr2
    refine h_ite (fun g => ?_) (fun g => ?_)
    · have g : (!decide (rightS m a b) || !i2) = true := g
      show _ = loadF m a b [x0, x1, x2, x3, x4, x5, x6, x7, x8, x9, x10, x11, x12, x13, x14, x15]
      unfold loadF
      rw [if_neg (fun ⟨h1, h2⟩ => by
        rw [b_of (hr2 (by simpa using h1))] at g
        simp [h1, h2] at g)]
      rfl
    have g : (!decide (rightS m a b) || !i2) = false := g
    simp only [Bool.or_eq_false_iff, Bool.not_eq_false', decide_eq_true_eq] at g
    obtain ⟨hR, rfl⟩ := g
    have hX : rightP [x0, x1, x2, x3, x4, x5, x6, x7, x8, x9, x10, x11, x12, x13, x14, x15] := by have := b_of (hr2 (by simpa using hR)); simpa using this.symm
    clear hr2
    have hl := rightS_len hR
    refine h_call (c := cOwn sg30) rfl (show a.length ≤ 1000000000 ∧ b.length ≤ 1000000000 by omega) fun rs hk hr => ?_
    have hr : rs = [.i m, .l a, .l b] := hr
    subst hr
    rcases rightS_mode hR with hm | hm
    · subst hm
      refine h_ite (fun _ => ?_) (fun g => absurd (show decide ((0 : Int) = 0) = false from g) (by decide))
      refine h_needR ((a.length : Int) - 1) rfl (by unfold ok64; omega) ?_
      iterate 2 refine h_need (by simp only [Env.sets, Env.set, BE.den, IE.den, DE.den, DV.int, DV.bool, DV.list, LOp.den, List.map_cons, List.map_nil, Nat.reduceEqDiff, ↓reduceIte, reduceCtorEq, Bool.and_eq_true, Bool.or_eq_true, Bool.not_eq_true', Bool.not_eq_false', Bool.and_eq_false_iff, Bool.or_eq_false_iff, decide_eq_true_eq, decide_eq_false_iff_not]; omega) ?_
      refine h_letE (M := setLast a [x0, x1, x2, x3, x4, x5, x6, x7, x8, x9, x10, x11, x12, x13, x14, x15]) rfl ?_
      iterate 2 refine h_need (by simp only [Env.sets, Env.set, BE.den, IE.den, DE.den, DV.int, DV.bool, DV.list, LOp.den, List.map_cons, List.map_nil, Nat.reduceEqDiff, ↓reduceIte, reduceCtorEq, Bool.and_eq_true, Bool.or_eq_true, Bool.not_eq_true', Bool.not_eq_false', Bool.and_eq_false_iff, Bool.or_eq_false_iff, decide_eq_true_eq, decide_eq_false_iff_not]; omega) ?_
      show _ = loadF 0 a b [x0, x1, x2, x3, x4, x5, x6, x7, x8, x9, x10, x11, x12, x13, x14, x15]
      unfold loadF
      rw [if_pos ⟨hR, hX⟩]
      rfl
    · subst hm
      refine h_ite (fun g => absurd (show decide ((1 : Int) = 0) = true from g) (by decide)) (fun _ => ?_)
      refine h_ite (fun _ => ?_) (fun g => absurd (show decide ((1 : Int) = 1) = false from g) (by decide))
      refine h_needR ((b.length : Int) - 1) rfl (by unfold ok64; omega) ?_
      iterate 2 refine h_need (by simp only [Env.sets, Env.set, BE.den, IE.den, DE.den, DV.int, DV.bool, DV.list, LOp.den, List.map_cons, List.map_nil, Nat.reduceEqDiff, ↓reduceIte, reduceCtorEq, Bool.and_eq_true, Bool.or_eq_true, Bool.not_eq_true', Bool.not_eq_false', Bool.and_eq_false_iff, Bool.or_eq_false_iff, decide_eq_true_eq, decide_eq_false_iff_not]; omega) ?_
      refine h_letE (M := setLast b [x0, x1, x2, x3, x4, x5, x6, x7, x8, x9, x10, x11, x12, x13, x14, x15]) rfl ?_
      iterate 2 refine h_need (by simp only [Env.sets, Env.set, BE.den, IE.den, DE.den, DV.int, DV.bool, DV.list, LOp.den, List.map_cons, List.map_nil, Nat.reduceEqDiff, ↓reduceIte, reduceCtorEq, Bool.and_eq_true, Bool.or_eq_true, Bool.not_eq_true', Bool.not_eq_false', Bool.and_eq_false_iff, Bool.or_eq_false_iff, decide_eq_true_eq, decide_eq_false_iff_not]; omega) ?_
      show _ = loadF 1 a b [x0, x1, x2, x3, x4, x5, x6, x7, x8, x9, x10, x11, x12, x13, x14, x15]
      unfold loadF
      rw [if_pos ⟨hR, hX⟩]
      rfl
  · cases hp
theorem ok18 : ContractOk Try.prog 18 (cLoad sg18) := by
  refine contract_of (Γ := knownOf [(23, cRightS sg23), (28, cRight sg28), (33, cOwn sg33)]) (known_cons ok23 rfl (known_cons ok28 rfl (known_cons ok33 rfl known_nil))) Try.func18 rfl rfl is18 fun ds hk hp => ?_
  split at hp
  · skip
    rename_i m a b x0 x1 x2 x3 x4 x5 x6 x7 x8 x9 x10 x11 x12 x13 x14 x15
    refine h_call (c := cRightS sg23) rfl trivial fun rs hk hr => ?_
    have hr : rs = [.b (decide (rightS m a b))] := hr
    subst hr
    refine h_callg (c := cRight sg28) rfl (fun _ => trivial) fun rs hk hr2 => ?_
    obtain ⟨i2, rfl⟩ := kinds1b hk
    have hr2 : decide (rightS m a b) = true → [DV.b i2] = [DV.b (decide (rightP [x0, x1, x2, x3, x4, x5, x6, x7, x8, x9, x10, x11, x12, x13, x14, x15]))] := hr2
    refine h_ite (fun g => ?_) (fun g => ?_)
    · have g : (!decide (rightS m a b) || !i2) = true := g
      show _ = loadF m a b [x0, x1, x2, x3, x4, x5, x6, x7, x8, x9, x10, x11, x12, x13, x14, x15]
      unfold loadF
      rw [if_neg (fun ⟨h1, h2⟩ => by
        rw [b_of (hr2 (by simpa using h1))] at g
        simp [h1, h2] at g)]
      rfl
    have g : (!decide (rightS m a b) || !i2) = false := g
    simp only [Bool.or_eq_false_iff, Bool.not_eq_false', decide_eq_true_eq] at g
    obtain ⟨hR, rfl⟩ := g
    have hX : rightP [x0, x1, x2, x3, x4, x5, x6, x7, x8, x9, x10, x11, x12, x13, x14, x15] := by have := b_of (hr2 (by simpa using hR)); simpa using this.symm
    clear hr2
    have hl := rightS_len hR
    refine h_call (c := cOwn sg33) rfl (show a.length ≤ 1000000000 ∧ b.length ≤ 1000000000 by omega) fun rs hk hr => ?_
    have hr : rs = [.i m, .l a, .l b] := hr
    subst hr
    rcases rightS_mode hR with hm | hm
    · subst hm
      refine h_ite (fun _ => ?_) (fun g => absurd (show decide ((0 : Int) = 0) = false from g) (by decide))
      refine h_needR ((a.length : Int) - 1) rfl (by unfold ok64; omega) ?_
      iterate 2 refine h_need (by simp only [Env.sets, Env.set, BE.den, IE.den, DE.den, DV.int, DV.bool, DV.list, LOp.den, List.map_cons, List.map_nil, Nat.reduceEqDiff, ↓reduceIte, reduceCtorEq, Bool.and_eq_true, Bool.or_eq_true, Bool.not_eq_true', Bool.not_eq_false', Bool.and_eq_false_iff, Bool.or_eq_false_iff, decide_eq_true_eq, decide_eq_false_iff_not]; omega) ?_
      refine h_letE (M := setLast a [x0, x1, x2, x3, x4, x5, x6, x7, x8, x9, x10, x11, x12, x13, x14, x15]) rfl ?_
      iterate 2 refine h_need (by simp only [Env.sets, Env.set, BE.den, IE.den, DE.den, DV.int, DV.bool, DV.list, LOp.den, List.map_cons, List.map_nil, Nat.reduceEqDiff, ↓reduceIte, reduceCtorEq, Bool.and_eq_true, Bool.or_eq_true, Bool.not_eq_true', Bool.not_eq_false', Bool.and_eq_false_iff, Bool.or_eq_false_iff, decide_eq_true_eq, decide_eq_false_iff_not]; omega) ?_
      show _ = loadF 0 a b [x0, x1, x2, x3, x4, x5, x6, x7, x8, x9, x10, x11, x12, x13, x14, x15]
      unfold loadF
      rw [if_pos ⟨hR, hX⟩]
      rfl
    · subst hm
      refine h_ite (fun g => absurd (show decide ((1 : Int) = 0) = true from g) (by decide)) (fun _ => ?_)
      refine h_ite (fun _ => ?_) (fun g => absurd (show decide ((1 : Int) = 1) = false from g) (by decide))
      refine h_needR ((b.length : Int) - 1) rfl (by unfold ok64; omega) ?_
      iterate 2 refine h_need (by simp only [Env.sets, Env.set, BE.den, IE.den, DE.den, DV.int, DV.bool, DV.list, LOp.den, List.map_cons, List.map_nil, Nat.reduceEqDiff, ↓reduceIte, reduceCtorEq, Bool.and_eq_true, Bool.or_eq_true, Bool.not_eq_true', Bool.not_eq_false', Bool.and_eq_false_iff, Bool.or_eq_false_iff, decide_eq_true_eq, decide_eq_false_iff_not]; omega) ?_
      refine h_letE (M := setLast b [x0, x1, x2, x3, x4, x5, x6, x7, x8, x9, x10, x11, x12, x13, x14, x15]) rfl ?_
      iterate 2 refine h_need (by simp only [Env.sets, Env.set, BE.den, IE.den, DE.den, DV.int, DV.bool, DV.list, LOp.den, List.map_cons, List.map_nil, Nat.reduceEqDiff, ↓reduceIte, reduceCtorEq, Bool.and_eq_true, Bool.or_eq_true, Bool.not_eq_true', Bool.not_eq_false', Bool.and_eq_false_iff, Bool.or_eq_false_iff, decide_eq_true_eq, decide_eq_false_iff_not]; omega) ?_
      show _ = loadF 1 a b [x0, x1, x2, x3, x4, x5, x6, x7, x8, x9, x10, x11, x12, x13, x14, x15]
      unfold loadF
      rw [if_pos ⟨hR, hX⟩]
      rfl
  · cases hp
end Go.Proofs.Ytnpmcfjagijkgaa.Fns
