/- Layer 19: all of a rectangle, points' fragments. -/
import Derived.Test.YtkoacdplkanhhaaFns3
set_option linter.unusedVariables false
set_option linter.unusedSimpArgs false
set_option maxRecDepth 10000
namespace Go.Proofs.Ytkoacdplkanhhaa.Fns
open Go.Sx Go.Proofs.Ytkoacdplkanhhaa.Trees

def c26_28 : Contract := CFn sg26_28 (fun | [.i a, .i b, .i c, .i d, .l [[X], [Y], [Z], [p], [q], [r], [s]], .l [[K]], .l [[S]]] => (mayP X Y Z p q r s ∧ 1 ≤ S ∧ S ≤ 64) ∧ ((-4194304 ≤ a ∧ c ≤ 4194304) ∧ (-4194304 ≤ b ∧ d ≤ 4194304)) ∧ (d - b).toNat * (c - a).toNat ≤ 1000000000 | _ => False) (fun | [.i a, .i b, .i c, .i d, .l [[X], [Y], [Z], [p], [q], [r], [s]], .l [[K]], .l [[S]]] => [.l (allL (fun x y => fragL X Y Z p q r s S K x y 64) a b c d)] | _ => [])
def c26_35 : Contract := CFn sg26_35 (fun | [.i a, .i b, .i c, .i d, .l [[X], [Y], [Z], [p], [q], [r], [s]], .l [[far]]] => (mayP X Y Z p q r s ∧ 0 ≤ far ∧ far ≤ 8192) ∧ ((-4194304 ≤ a ∧ c ≤ 4194304) ∧ (-4194304 ≤ b ∧ d ≤ 4194304)) ∧ (d - b).toNat * (c - a).toNat ≤ 1000000000 | _ => False) (fun | [.i a, .i b, .i c, .i d, .l [[X], [Y], [Z], [p], [q], [r], [s]], .l [[far]]] => [.l (allL (fun x y => fragL X Y Z p q r s 1 0 x y (cov X Y (far * far) x y)) a b c d)] | _ => [])
theorem ok26_28 : ContractOk Try.prog 26 c26_28 := by
  refine contract_of (Γ := knownOf [(28, c28)]) (known_cons ok28 rfl known_nil) Try.func26 rfl rfl is26_28 fun ds hk hp => ?_
  split at hp
  · skip
    rename_i a b c d X Y Z p q r s K S
    obtain ⟨hv, ⟨⟨a1, c1⟩, b1, d1⟩, har⟩ := hp
    refine h_loop (fun ds => ∃ n : Nat, ds = [.l (allN (fun x y => fragL X Y Z p q r s S K x y 64) a (c - a).toNat b n), .i (b + (n : Int))] ∧ n ≤ (d - b).toNat) (fun | [_, .i y] => (d - y).toNat | _ => 0) ⟨0, by simp [DE.den, IE.den, Env.sets, Env.set, DV.int, allN, rngN], by omega⟩ ?_
    intro ds _ ⟨n, hds, hn⟩
    subst hds
    have hln := allN_len (g := (fun x y => fragL X Y Z p q r s S K x y 64)) (a := a) (b := b) (w := (c - a).toNat) (n := n)
    refine h_ite (fun hc => ?_) (fun hc => ?_)
    · have hc : decide (b + (n : Int) < d) = true := hc
      rw [decide_eq_true_eq] at hc
      have hmul : (n + 1) * (c - a).toNat ≤ (d - b).toNat * (c - a).toNat := Nat.mul_le_mul_right _ (by omega)
      rw [Nat.succ_mul] at hmul
      refine h_loop (fun ds => ∃ m : Nat, ds = [.l ((allN (fun x y => fragL X Y Z p q r s S K x y 64) a (c - a).toNat b n) ++ rowN (fun x y => fragL X Y Z p q r s S K x y 64) a m (b + (n : Int))), .i (a + (m : Int))] ∧ m ≤ (c - a).toNat) (fun | [_, .i x] => (c - x).toNat | _ => 0) ⟨0, by simp [DE.den, IE.den, Env.sets, Env.set, DV.int, DV.list, rowN, rngN], by omega⟩ ?_
      intro ds _ ⟨m, hds, hm⟩
      subst hds
      have hrl := rowN_len (g := (fun x y => fragL X Y Z p q r s S K x y 64)) (a := a) (y := (b + (n : Int))) (n := m)
      refine h_ite (fun hc2 => ?_) (fun hc2 => ?_)
      · have hc2 : decide (a + (m : Int) < c) = true := hc2
        rw [decide_eq_true_eq] at hc2
        refine h_call (c := c28) rfl (show _ ∧ _ ∧ nearP (a + (m : Int)) (b + (n : Int)) from ⟨hv.1, hv.2, ⟨by omega, by omega⟩, by omega, by omega⟩) fun rs hk hr => ?_
        have hr : rs = (fragL X Y Z p q r s S K (a + (m : Int)) (b + (n : Int)) 64).map DV.i := hr
        subst hr
        have hs := rowN_succ (g := (fun x y => fragL X Y Z p q r s S K x y 64)) (a := a) (y := (b + (n : Int))) (n := m)
        refine h_ite (fun g => ?_) (fun g => ?_)
        · have g : decide (0 < (fragL X Y Z p q r s S K (a + (m : Int)) (b + (n : Int)) 64).getD 7 0) = true := g
          rw [decide_eq_true_eq] at g
          have hkp : keep (fragL X Y Z p q r s S K (a + (m : Int)) (b + (n : Int)) 64) = [fragL X Y Z p q r s S K (a + (m : Int)) (b + (n : Int)) 64] := by unfold keep; rw [if_pos g]
          refine h_letE (M := [fragL X Y Z p q r s S K (a + (m : Int)) (b + (n : Int)) 64]) rfl ?_
          refine h_need (show decide (((((allN (fun x y => fragL X Y Z p q r s S K x y 64) a (c - a).toNat b n) ++ rowN (fun x y => fragL X Y Z p q r s S K x y 64) a m (b + (n : Int))).length : Nat) : Int) + ((1 : Nat) : Int) ≤ 2199023255552) = true from decide_eq_true (by rw [List.length_append]; omega)) ?_
          refine h_letE (M := ((allN (fun x y => fragL X Y Z p q r s S K x y 64) a (c - a).toNat b n) ++ rowN (fun x y => fragL X Y Z p q r s S K x y 64) a m (b + (n : Int))) ++ [fragL X Y Z p q r s S K (a + (m : Int)) (b + (n : Int)) 64]) rfl ?_
          refine h_needR ((a + (m : Int)) + 1) rfl (by omega) (h_again ⟨⟨m + 1, ?_, by omega⟩, ?_⟩)
          · rw [hs, hkp, ← List.append_assoc]
            show [_, DV.i ((a + (m : Int)) + 1)] = [_, DV.i (a + ((m + 1 : Nat) : Int))]
            rw [show (a + (m : Int)) + 1 = a + ((m + 1 : Nat) : Int) by omega]
            rfl
          · show (c - ((a + (m : Int)) + 1)).toNat < (c - (a + (m : Int))).toNat
            omega
        · have g : decide (0 < (fragL X Y Z p q r s S K (a + (m : Int)) (b + (n : Int)) 64).getD 7 0) = false := g
          rw [decide_eq_false_iff_not] at g
          have hkp : keep (fragL X Y Z p q r s S K (a + (m : Int)) (b + (n : Int)) 64) = [] := by unfold keep; rw [if_neg g]
          refine h_needR ((a + (m : Int)) + 1) rfl (by omega) (h_again ⟨⟨m + 1, ?_, by omega⟩, ?_⟩)
          · rw [hs, hkp, List.append_nil]
            show [_, DV.i ((a + (m : Int)) + 1)] = [_, DV.i (a + ((m + 1 : Nat) : Int))]
            rw [show (a + (m : Int)) + 1 = a + ((m + 1 : Nat) : Int) by omega]
            rfl
          · show (c - ((a + (m : Int)) + 1)).toNat < (c - (a + (m : Int))).toNat
            omega
      · have hc2 : decide (a + (m : Int) < c) = false := hc2
        rw [decide_eq_false_iff_not] at hc2
        have : m = (c - a).toNat := by omega
        subst this
        refine h_needR ((b + (n : Int)) + 1) rfl (by omega) (h_again2 rfl ⟨⟨n + 1, ?_, by omega⟩, ?_⟩)
        · rw [allN_succ]
          show [_, DV.i ((b + (n : Int)) + 1)] = [_, DV.i (b + ((n + 1 : Nat) : Int))]
          rw [show (b + (n : Int)) + 1 = b + ((n + 1 : Nat) : Int) by omega]
          rfl
        · show (d - ((b + (n : Int)) + 1)).toNat < (d - (b + (n : Int))).toNat
          omega
    · have hc : decide (b + (n : Int) < d) = false := hc
      rw [decide_eq_false_iff_not] at hc
      have : n = (d - b).toNat := by omega
      subst this
      rfl
  · cases hp
theorem ok26_35 : ContractOk Try.prog 26 c26_35 := by
  refine contract_of (Γ := knownOf [(35, c35)]) (known_cons ok35 rfl known_nil) Try.func26 rfl rfl is26_35 fun ds hk hp => ?_
  split at hp
  · skip
    rename_i a b c d X Y Z p q r s far
    obtain ⟨hv, ⟨⟨a1, c1⟩, b1, d1⟩, har⟩ := hp
    refine h_loop (fun ds => ∃ n : Nat, ds = [.l (allN (fun x y => fragL X Y Z p q r s 1 0 x y (cov X Y (far * far) x y)) a (c - a).toNat b n), .i (b + (n : Int))] ∧ n ≤ (d - b).toNat) (fun | [_, .i y] => (d - y).toNat | _ => 0) ⟨0, by simp [DE.den, IE.den, Env.sets, Env.set, DV.int, allN, rngN], by omega⟩ ?_
    intro ds _ ⟨n, hds, hn⟩
    subst hds
    have hln := allN_len (g := (fun x y => fragL X Y Z p q r s 1 0 x y (cov X Y (far * far) x y))) (a := a) (b := b) (w := (c - a).toNat) (n := n)
    refine h_ite (fun hc => ?_) (fun hc => ?_)
    · have hc : decide (b + (n : Int) < d) = true := hc
      rw [decide_eq_true_eq] at hc
      have hmul : (n + 1) * (c - a).toNat ≤ (d - b).toNat * (c - a).toNat := Nat.mul_le_mul_right _ (by omega)
      rw [Nat.succ_mul] at hmul
      refine h_loop (fun ds => ∃ m : Nat, ds = [.l ((allN (fun x y => fragL X Y Z p q r s 1 0 x y (cov X Y (far * far) x y)) a (c - a).toNat b n) ++ rowN (fun x y => fragL X Y Z p q r s 1 0 x y (cov X Y (far * far) x y)) a m (b + (n : Int))), .i (a + (m : Int))] ∧ m ≤ (c - a).toNat) (fun | [_, .i x] => (c - x).toNat | _ => 0) ⟨0, by simp [DE.den, IE.den, Env.sets, Env.set, DV.int, DV.list, rowN, rngN], by omega⟩ ?_
      intro ds _ ⟨m, hds, hm⟩
      subst hds
      have hrl := rowN_len (g := (fun x y => fragL X Y Z p q r s 1 0 x y (cov X Y (far * far) x y))) (a := a) (y := (b + (n : Int))) (n := m)
      refine h_ite (fun hc2 => ?_) (fun hc2 => ?_)
      · have hc2 : decide (a + (m : Int) < c) = true := hc2
        rw [decide_eq_true_eq] at hc2
        refine h_call (c := c35) rfl (show _ ∧ _ ∧ nearP (a + (m : Int)) (b + (n : Int)) from ⟨hv.1, hv.2, ⟨by omega, by omega⟩, by omega, by omega⟩) fun rs hk hr => ?_
        have hr : rs = (fragL X Y Z p q r s 1 0 (a + (m : Int)) (b + (n : Int)) (cov X Y (far * far) (a + (m : Int)) (b + (n : Int)))).map DV.i := hr
        subst hr
        have hs := rowN_succ (g := (fun x y => fragL X Y Z p q r s 1 0 x y (cov X Y (far * far) x y))) (a := a) (y := (b + (n : Int))) (n := m)
        refine h_ite (fun g => ?_) (fun g => ?_)
        · have g : decide (0 < (fragL X Y Z p q r s 1 0 (a + (m : Int)) (b + (n : Int)) (cov X Y (far * far) (a + (m : Int)) (b + (n : Int)))).getD 7 0) = true := g
          rw [decide_eq_true_eq] at g
          have hkp : keep (fragL X Y Z p q r s 1 0 (a + (m : Int)) (b + (n : Int)) (cov X Y (far * far) (a + (m : Int)) (b + (n : Int)))) = [fragL X Y Z p q r s 1 0 (a + (m : Int)) (b + (n : Int)) (cov X Y (far * far) (a + (m : Int)) (b + (n : Int)))] := by unfold keep; rw [if_pos g]
          refine h_letE (M := [fragL X Y Z p q r s 1 0 (a + (m : Int)) (b + (n : Int)) (cov X Y (far * far) (a + (m : Int)) (b + (n : Int)))]) rfl ?_
          refine h_need (show decide (((((allN (fun x y => fragL X Y Z p q r s 1 0 x y (cov X Y (far * far) x y)) a (c - a).toNat b n) ++ rowN (fun x y => fragL X Y Z p q r s 1 0 x y (cov X Y (far * far) x y)) a m (b + (n : Int))).length : Nat) : Int) + ((1 : Nat) : Int) ≤ 2199023255552) = true from decide_eq_true (by rw [List.length_append]; omega)) ?_
          refine h_letE (M := ((allN (fun x y => fragL X Y Z p q r s 1 0 x y (cov X Y (far * far) x y)) a (c - a).toNat b n) ++ rowN (fun x y => fragL X Y Z p q r s 1 0 x y (cov X Y (far * far) x y)) a m (b + (n : Int))) ++ [fragL X Y Z p q r s 1 0 (a + (m : Int)) (b + (n : Int)) (cov X Y (far * far) (a + (m : Int)) (b + (n : Int)))]) rfl ?_
          refine h_needR ((a + (m : Int)) + 1) rfl (by omega) (h_again ⟨⟨m + 1, ?_, by omega⟩, ?_⟩)
          · rw [hs, hkp, ← List.append_assoc]
            show [_, DV.i ((a + (m : Int)) + 1)] = [_, DV.i (a + ((m + 1 : Nat) : Int))]
            rw [show (a + (m : Int)) + 1 = a + ((m + 1 : Nat) : Int) by omega]
            rfl
          · show (c - ((a + (m : Int)) + 1)).toNat < (c - (a + (m : Int))).toNat
            omega
        · have g : decide (0 < (fragL X Y Z p q r s 1 0 (a + (m : Int)) (b + (n : Int)) (cov X Y (far * far) (a + (m : Int)) (b + (n : Int)))).getD 7 0) = false := g
          rw [decide_eq_false_iff_not] at g
          have hkp : keep (fragL X Y Z p q r s 1 0 (a + (m : Int)) (b + (n : Int)) (cov X Y (far * far) (a + (m : Int)) (b + (n : Int)))) = [] := by unfold keep; rw [if_neg g]
          refine h_needR ((a + (m : Int)) + 1) rfl (by omega) (h_again ⟨⟨m + 1, ?_, by omega⟩, ?_⟩)
          · rw [hs, hkp, List.append_nil]
            show [_, DV.i ((a + (m : Int)) + 1)] = [_, DV.i (a + ((m + 1 : Nat) : Int))]
            rw [show (a + (m : Int)) + 1 = a + ((m + 1 : Nat) : Int) by omega]
            rfl
          · show (c - ((a + (m : Int)) + 1)).toNat < (c - (a + (m : Int))).toNat
            omega
      · have hc2 : decide (a + (m : Int) < c) = false := hc2
        rw [decide_eq_false_iff_not] at hc2
        have : m = (c - a).toNat := by omega
        subst this
        refine h_needR ((b + (n : Int)) + 1) rfl (by omega) (h_again2 rfl ⟨⟨n + 1, ?_, by omega⟩, ?_⟩)
        · rw [allN_succ]
          show [_, DV.i ((b + (n : Int)) + 1)] = [_, DV.i (b + ((n + 1 : Nat) : Int))]
          rw [show (b + (n : Int)) + 1 = b + ((n + 1 : Nat) : Int) by omega]
          rfl
        · show (d - ((b + (n : Int)) + 1)).toNat < (d - (b + (n : Int))).toNat
          omega
    · have hc : decide (b + (n : Int) < d) = false := hc
      rw [decide_eq_false_iff_not] at hc
      have : n = (d - b).toNat := by omega
      subst this
      rfl
  · cases hp
def andX (a b c d e f g h : Int) : Int × Int × Int × Int := if andOk a b c d e f g h then (max a e, max b f, min c g, min d h) else (0, 0, 0, 0)
theorem andL_X {a b c d e f g h : Int} : andL a b c d e f g h = [.i (andX a b c d e f g h).1, .i (andX a b c d e f g h).2.1, .i (andX a b c d e f g h).2.2.1, .i (andX a b c d e f g h).2.2.2] := by
  unfold andL andX; split <;> rfl
theorem andX_in {a b c d e f g h : Int} (h1 : rightP e f g h) : (-4194304 ≤ (andX a b c d e f g h).1 ∧ (andX a b c d e f g h).2.2.1 ≤ 4194304) ∧ -4194304 ≤ (andX a b c d e f g h).2.1 ∧ (andX a b c d e f g h).2.2.2 ≤ 4194304 := by
  unfold rightP at h1
  unfold andX
  split
  · refine ⟨⟨?_, ?_⟩, ?_, ?_⟩ <;> simp only <;> omega
  · simp
theorem andX_area {a b c d e f g h w : Int} (h1 : c - a ≤ w) (h2 : d - b ≤ w) (hw : 0 ≤ w) (hw2 : w ≤ 1000) : ((andX a b c d e f g h).2.2.2 - (andX a b c d e f g h).2.1).toNat * ((andX a b c d e f g h).2.2.1 - (andX a b c d e f g h).1).toNat ≤ 1000000000 := by
  unfold andX
  split
  · have e1 : (min d h - max b f).toNat ≤ 1000 := by omega
    have e2 : (min c g - max a e).toNat ≤ 1000 := by omega
    have := Nat.mul_le_mul e1 e2
    simp only
    omega
  · simp
def allT (g : Int → Int → List Int) (t : Int × Int × Int × Int) : List (List Int) := allL g t.1 t.2.1 t.2.2.1 t.2.2.2
def nearT (X Y S a b c d : Int) : Int × Int × Int × Int := andX ((X - S * 128) / 256 - 1) ((Y - S * 128) / 256 - 1) ((X + S * 128) / 256 + 2) ((Y + S * 128) / 256 + 2) a b c d
def boxT (X Y S a b c d : Int) : Int × Int × Int × Int := andX (firstI X S) (firstI Y S) (firstI X S + S) (firstI Y S + S) a b c d
def g1 (X Y Z p q r s S : Int) : Int → Int → List Int := fun x y => fragL X Y Z p q r s 1 0 x y (cov X Y (S * 128 * (S * 128)) x y)
def g0 (X Y Z p q r s S K : Int) : Int → Int → List Int := fun x y => fragL X Y Z p q r s S K x y 64
def pointL (X Y Z p q r s S K a b c d : Int) : List (List Int) := if rightD X Y Z p q r s S K ∧ rightB a b c d = true then (if K = 1 then allT (g1 X Y Z p q r s S) (nearT X Y S a b c d) else allT (g0 X Y Z p q r s S K) (boxT X Y S a b c d)) else []
def c25 : Contract := CFn sg25 (fun | [.i X, .i Y, .i Z, .i p, .i q, .i r, .i s, .i S, .i a, .i b, .i c, .i d] => sizeP X Y Z p q r s S ∧ rightP a b c d | _ => False) (fun | [.i X, .i Y, .i Z, .i p, .i q, .i r, .i s, .i S, .i a, .i b, .i c, .i d] => [.l (allT (g1 X Y Z p q r s S) (nearT X Y S a b c d))] | _ => [])
def c14 : Contract := CFn sg14 (fun | [.i X, .i Y, .i Z, .i p, .i q, .i r, .i s, .i S, .i K, .i a, .i b, .i c, .i d] => (in64 X ∧ in64 Y ∧ in64 Z ∧ in64 p ∧ in64 q ∧ in64 r ∧ in64 s) ∧ in64 S ∧ in64 K | _ => False) (fun | [.i X, .i Y, .i Z, .i p, .i q, .i r, .i s, .i S, .i K, .i a, .i b, .i c, .i d] => [.l (pointL X Y Z p q r s S K a b c d)] | _ => [])
theorem ok25 : ContractOk Try.prog 25 c25 := by
  refine contract_of (Γ := knownOf [(27, cAnd sg27), (26, c26_35)]) (known_cons ok27 rfl (known_cons ok26_35 rfl known_nil)) Try.func25 rfl rfl is25 fun ds hk hp => ?_
  split at hp
  · skip
    rename_i X Y Z p q r s S a b c d
    obtain ⟨hz, hr4⟩ := hp
    obtain ⟨hm, s1, s2⟩ := id hz
    obtain ⟨_, ⟨x1, x2⟩, ⟨y1, y2⟩, _⟩ := id hm
    iterate 9 refine h_need (by simp only [Env.sets, Env.set, BE.den, IE.den, DE.den, DV.int, DV.bool, DV.list, LOp.den, List.map_cons, List.map_nil, Nat.reduceEqDiff, ↓reduceIte, reduceCtorEq, Bool.and_eq_true, Bool.or_eq_true, Bool.not_eq_true', Bool.not_eq_false', Bool.and_eq_false_iff, Bool.or_eq_false_iff, decide_eq_true_eq, decide_eq_false_iff_not]; omega) ?_
    refine h_call (c := cAnd sg27) rfl trivial fun rs hk hr => ?_
    have hr : rs = andL ((X - S * 128) / 256 - 1) ((Y - S * 128) / 256 - 1) ((X + S * 128) / 256 + 2) ((Y + S * 128) / 256 + 2) a b c d := hr
    rw [andL_X] at hr
    have hr : rs = [.i (nearT X Y S a b c d).1, .i (nearT X Y S a b c d).2.1, .i (nearT X Y S a b c d).2.2.1, .i (nearT X Y S a b c d).2.2.2] := hr
    subst hr
    refine h_call (c := c26_35) rfl (show (mayP X Y Z p q r s ∧ 0 ≤ S * 128 ∧ S * 128 ≤ 8192) ∧ _ ∧ _ from ⟨⟨hm, by omega, by omega⟩, andX_in hr4, andX_area (w := 100) (by omega) (by omega) (by omega) (by omega)⟩) fun rs hk hr => ?_
    have hr : rs = [.l (allT (g1 X Y Z p q r s S) (nearT X Y S a b c d))] := hr
    subst hr
    rfl
  · cases hp
theorem ok14 : ContractOk Try.prog 14 c14 := by
  refine contract_of (Γ := knownOf [(9, cRightD sg9), (24, cRight sg24), (25, c25), (11, cBox sg11), (27, cAnd sg27), (26, c26_28)]) (known_cons ok9 rfl (known_cons ok24 rfl (known_cons ok25 rfl (known_cons ok11 rfl (known_cons ok27 rfl (known_cons ok26_28 rfl known_nil)))))) Try.func14 rfl rfl is14 fun ds hk hp => ?_
  split at hp
  · skip
    rename_i X Y Z p q r s S K a b c d
    have hp := hp
    refine h_call (c := cRightD sg9) rfl hp fun rs hk hr => ?_
    have hr : rs = [.b (decide (rightD X Y Z p q r s S K))] := hr
    subst hr
    refine h_callg (c := cRight sg24) rfl (fun _ => trivial) fun rs hk hr2 => ?_
    obtain ⟨i2, rfl⟩ := kinds1b hk
    have hr2 : decide (rightD X Y Z p q r s S K) = true → [DV.b i2] = [DV.b (rightB a b c d)] := hr2
    refine h_ite (fun g => ?_) (fun g => ?_)
    · have g : (!decide (rightD X Y Z p q r s S K) || !i2) = true := g
      show [DV.l []] = [DV.l (pointL X Y Z p q r s S K a b c d)]
      unfold pointL
      rw [if_neg (fun ⟨h1, h2⟩ => by
        rw [b_of (hr2 (by simpa using h1))] at g
        simp [h1, h2] at g)]
    have g : (!decide (rightD X Y Z p q r s S K) || !i2) = false := g
    simp only [Bool.or_eq_false_iff, Bool.not_eq_false', decide_eq_true_eq] at g
    obtain ⟨hR, rfl⟩ := g
    have hB : rightB a b c d = true := (b_of (hr2 (by simpa using hR))).symm
    clear hr2
    have hB' : rightP a b c d := of_decide_eq_true hB
    have hP : pointL X Y Z p q r s S K a b c d = if K = 1 then allT (g1 X Y Z p q r s S) (nearT X Y S a b c d) else allT (g0 X Y Z p q r s S K) (boxT X Y S a b c d) := by unfold pointL; rw [if_pos ⟨hR, hB⟩]
    refine h_ite (fun g => ?_) (fun g => ?_)
    · have g : decide (K = 1) = true := g
      rw [decide_eq_true_eq] at g
      refine h_call (c := c25) rfl ⟨hR.1, hB'⟩ fun rs hk hr => ?_
      have hr : rs = [.l (allT (g1 X Y Z p q r s S) (nearT X Y S a b c d))] := hr
      subst hr
      show _ = [DV.l (pointL X Y Z p q r s S K a b c d)]
      rw [hP, if_pos g]
      rfl
    have g : decide (K = 1) = false := g
    rw [decide_eq_false_iff_not] at g
    refine h_call (c := cBox sg11) rfl (show _ ∧ _ from ⟨hp.1, hp.2.1⟩) fun rs hk hr => ?_
    have hr : rs = boxL X Y Z p q r s S := hr
    unfold boxL at hr
    rw [if_pos hR.1] at hr
    subst hr
    refine h_call (c := cAnd sg27) rfl trivial fun rs hk hr => ?_
    have hr : rs = andL (firstI X S) (firstI Y S) (firstI X S + S) (firstI Y S + S) a b c d := hr
    rw [andL_X] at hr
    have hr : rs = [.i (boxT X Y S a b c d).1, .i (boxT X Y S a b c d).2.1, .i (boxT X Y S a b c d).2.2.1, .i (boxT X Y S a b c d).2.2.2] := hr
    subst hr
    have hs := hR.1.2
    refine h_call (c := c26_28) rfl (show (mayP X Y Z p q r s ∧ _) ∧ _ ∧ _ from ⟨hR.1, andX_in hB', andX_area (w := 100) (by omega) (by omega) (by omega) (by omega)⟩) fun rs hk hr => ?_
    have hr : rs = [.l (allT (g0 X Y Z p q r s S K) (boxT X Y S a b c d))] := hr
    subst hr
    show _ = [DV.l (pointL X Y Z p q r s S K a b c d)]
    rw [hP, if_neg g]
    rfl
  · cases hp
end Go.Proofs.Ytkoacdplkanhhaa.Fns
