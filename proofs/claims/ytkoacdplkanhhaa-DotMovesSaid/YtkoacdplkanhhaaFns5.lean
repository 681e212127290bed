/- Layer 19: the document's fragments. -/
import Derived.Test.YtkoacdplkanhhaaFns4
set_option linter.unusedVariables false
set_option linter.unusedSimpArgs false
set_option maxRecDepth 10000
namespace Go.Proofs.Ytkoacdplkanhhaa.Fns
open Go.Sx Go.Proofs.Ytkoacdplkanhhaa.Trees

def hasBox (X Y S x y : Int) : Bool := hasB (firstI X S) (firstI Y S) (firstI X S + S) (firstI Y S + S) x y
def gR (X Y Z p q r s S K : Int) : Int → Int → List Int := fun x y => fragL X Y Z p q r s S K x y (if K = 1 then cov X Y (S * 128 * (S * 128)) x y else if hasBox X Y S x y = true then 64 else 0)
def refL (X Y Z p q r s S K a b c d : Int) : List (List Int) := if rightD X Y Z p q r s S K ∧ rightB a b c d = true then allL (gR X Y Z p q r s S K) a b c d else []
theorem keep_pos {l : List Int} (h : 0 < l.getD 7 0) : keep l = [l] := by unfold keep; rw [if_pos h]
theorem keep_no {l : List Int} (h : ¬ 0 < l.getD 7 0) : keep l = [] := by unfold keep; rw [if_neg h]
def c15 : Contract := CFn sg15 (fun | [.i X, .i Y, .i Z, .i p, .i q, .i r, .i s, .i S, .i K, .i a, .i b, .i c, .i d] => ((in64 X ∧ in64 Y ∧ in64 Z ∧ in64 p ∧ in64 q ∧ in64 r ∧ in64 s) ∧ in64 S ∧ in64 K) ∧ (rightP a b c d → (d - b).toNat * (c - a).toNat ≤ 1000000000) | _ => False) (fun | [.i X, .i Y, .i Z, .i p, .i q, .i r, .i s, .i S, .i K, .i a, .i b, .i c, .i d] => [.l (refL X Y Z p q r s S K a b c d)] | _ => [])
theorem ok15 : ContractOk Try.prog 15 c15 := by
  refine contract_of (Γ := knownOf [(10, cRightD sg10), (19, cRight sg19), (12, cBox sg12), (30, c30), (31, c31), (17, cHas sg17)]) (known_cons ok10 rfl (known_cons ok19 rfl (known_cons ok12 rfl (known_cons ok30 rfl (known_cons ok31 rfl (known_cons ok17 rfl known_nil)))))) Try.func15 rfl rfl is15 fun ds hk hp => ?_
  split at hp
  · skip
    rename_i X Y Z p q r s S K a b c d
    obtain ⟨hin, har⟩ := hp
    refine h_call (c := cRightD sg10) rfl hin fun rs hk hr => ?_
    have hr : rs = [.b (decide (rightD X Y Z p q r s S K))] := hr
    subst hr
    refine h_callg (c := cRight sg19) rfl (fun _ => trivial) fun rs hk hr2 => ?_
    obtain ⟨i2, rfl⟩ := kinds1b hk
    have hr2 : decide (rightD X Y Z p q r s S K) = true → [DV.b i2] = [DV.b (rightB a b c d)] := hr2
    refine h_ite (fun g => ?_) (fun g => ?_)
    · have g : (!decide (rightD X Y Z p q r s S K) || !i2) = true := g
      show [DV.l []] = [DV.l (refL X Y Z p q r s S K a b c d)]
      unfold refL
      rw [if_neg (fun ⟨h1, h2⟩ => by
        rw [b_of (hr2 (by simpa using h1))] at g
        simp [h1, h2] at g)]
    have g : (!decide (rightD X Y Z p q r s S K) || !i2) = false := g
    simp only [Bool.or_eq_false_iff, Bool.not_eq_false', decide_eq_true_eq] at g
    obtain ⟨hR, rfl⟩ := g
    have hB : rightB a b c d = true := (b_of (hr2 (by simpa using hR))).symm
    clear hr2
    have hB' : rightP a b c d := of_decide_eq_true hB
    have har := har hB'
    obtain ⟨⟨a1, a2⟩, ⟨c1, c2⟩, ⟨b1, b2⟩, ⟨d1, d2⟩, hab, hbd⟩ := hB'
    have hP : refL X Y Z p q r s S K a b c d = allL (gR X Y Z p q r s S K) a b c d := by unfold refL; rw [if_pos ⟨hR, hB⟩]
    obtain ⟨⟨⟨_, ⟨x1, x2⟩, ⟨y1, y2⟩, _⟩, s1, s2⟩, k1, k2⟩ := id hR
    refine h_call (c := cBox sg12) rfl (show _ ∧ _ from ⟨hin.1, hin.2.1⟩) fun rs hk hr => ?_
    have hr : rs = boxL X Y Z p q r s S := hr
    unfold boxL at hr
    rw [if_pos hR.1] at hr
    subst hr
    refine h_loop (fun ds => ∃ n : Nat, ds = [.l (allN (gR X Y Z p q r s S K) a (c - a).toNat b n), .i (b + (n : Int))] ∧ n ≤ (d - b).toNat) (fun | [_, .i y] => (d - y).toNat | _ => 0) ⟨0, by simp [DE.den, IE.den, Env.sets, Env.set, DV.int, allN, rngN], by omega⟩ ?_
    intro ds _ ⟨n, hds, hn⟩
    subst hds
    have hln := allN_len (g := (gR X Y Z p q r s S K)) (a := a) (b := b) (w := (c - a).toNat) (n := n)
    refine h_ite (fun hc => ?_) (fun hc => ?_)
    · have hc : decide (b + (n : Int) < d) = true := hc
      rw [decide_eq_true_eq] at hc
      have hmul : (n + 1) * (c - a).toNat ≤ (d - b).toNat * (c - a).toNat := Nat.mul_le_mul_right _ (by omega)
      rw [Nat.succ_mul] at hmul
      refine h_loop (fun ds => ∃ m : Nat, ds = [.l ((allN (gR X Y Z p q r s S K) a (c - a).toNat b n) ++ rowN (gR X Y Z p q r s S K) a m (b + (n : Int))), .i (a + (m : Int))] ∧ m ≤ (c - a).toNat) (fun | [_, .i x] => (c - x).toNat | _ => 0) ⟨0, by simp [DE.den, IE.den, Env.sets, Env.set, DV.int, DV.list, rowN, rngN], by omega⟩ ?_
      intro ds _ ⟨m, hds, hm⟩
      subst hds
      have hrl := rowN_len (g := (gR X Y Z p q r s S K)) (a := a) (y := (b + (n : Int))) (n := m)
      have hs := rowN_succ (g := (gR X Y Z p q r s S K)) (a := a) (y := (b + (n : Int))) (n := m)
      refine h_ite (fun hc2 => ?_) (fun hc2 => ?_)
      · have hc2 : decide (a + (m : Int) < c) = true := hc2
        rw [decide_eq_true_eq] at hc2
        have hnear : nearP (a + (m : Int)) (b + (n : Int)) := ⟨⟨by omega, by omega⟩, by omega, by omega⟩
        refine h_ite (fun g => ?_) (fun g => ?_)
        · have g : decide (K = 1) = true := g
          rw [decide_eq_true_eq] at g
          refine h_call (c := c30) rfl (show midP X Y ∧ nearP (a + (m : Int)) (b + (n : Int)) ∧ 1 ≤ S ∧ S ≤ 64 from ⟨⟨⟨x1, x2⟩, y1, y2⟩, hnear, s1, s2⟩) fun rs hk hr => ?_
          have hr : rs = [.i (cov X Y (S * 128 * (S * 128)) (a + (m : Int)) (b + (n : Int)))] := hr
          subst hr
          refine h_ite (fun gk => ?_) (fun _ => ?_)
          · have gk : decide (K = 2) = true := gk
            rw [decide_eq_true_eq] at gk
            omega
          have hrow : (gR X Y Z p q r s S K (a + (m : Int)) (b + (n : Int))) = [(a + (m : Int)), (b + (n : Int)), Z, p, q, r, s, cov X Y (S * 128 * (S * 128)) (a + (m : Int)) (b + (n : Int))] := by
            unfold gR fragL
            rw [if_pos g, show colI K X S p (a + (m : Int)) = p by unfold colI; rw [if_neg (by omega)], show colI K Y S q (b + (n : Int)) = q by unfold colI; rw [if_neg (by omega)]]
          refine h_ite (fun gc => ?_) (fun gc => ?_)
          · have gc : decide (0 < cov X Y (S * 128 * (S * 128)) (a + (m : Int)) (b + (n : Int))) = true := gc
            rw [decide_eq_true_eq] at gc
            have hkp := keep_pos (l := (gR X Y Z p q r s S K (a + (m : Int)) (b + (n : Int)))) (by rw [hrow]; exact gc)
            refine h_letE (M := [(gR X Y Z p q r s S K (a + (m : Int)) (b + (n : Int)))]) (by rw [hrow]; rfl) ?_
            refine h_need (show decide ((((((allN (gR X Y Z p q r s S K) a (c - a).toNat b n) ++ rowN (gR X Y Z p q r s S K) a m (b + (n : Int)))).length : Nat) : Int) + ((1 : Nat) : Int) ≤ 2199023255552) = true from decide_eq_true (by rw [List.length_append]; omega)) ?_
            refine h_letE (M := ((allN (gR X Y Z p q r s S K) a (c - a).toNat b n) ++ rowN (gR X Y Z p q r s S K) a m (b + (n : Int))) ++ [(gR X Y Z p q r s S K (a + (m : Int)) (b + (n : Int)))]) rfl ?_
            refine h_needR ((a + (m : Int)) + 1) rfl (by omega) (h_again ⟨⟨m + 1, ?_, by omega⟩, ?_⟩)
            · rw [hs, hkp, ← List.append_assoc]
              show [_, DV.i ((a + (m : Int)) + 1)] = [_, DV.i (a + ((m + 1 : Nat) : Int))]
              rw [show (a + (m : Int)) + 1 = a + ((m + 1 : Nat) : Int) by omega]
              rfl
            · show (c - ((a + (m : Int)) + 1)).toNat < (c - (a + (m : Int))).toNat
              omega
          · have gc : decide (0 < cov X Y (S * 128 * (S * 128)) (a + (m : Int)) (b + (n : Int))) = false := gc
            rw [decide_eq_false_iff_not] at gc
            have hkp := keep_no (l := (gR X Y Z p q r s S K (a + (m : Int)) (b + (n : Int)))) (by rw [hrow]; exact gc)
            refine h_needR ((a + (m : Int)) + 1) rfl (by omega) (h_again ⟨⟨m + 1, ?_, by omega⟩, ?_⟩)
            · rw [hs, hkp, List.append_nil]
              show [_, DV.i ((a + (m : Int)) + 1)] = [_, DV.i (a + ((m + 1 : Nat) : Int))]
              rw [show (a + (m : Int)) + 1 = a + ((m + 1 : Nat) : Int) by omega]
              rfl
            · show (c - ((a + (m : Int)) + 1)).toNat < (c - (a + (m : Int))).toNat
              omega
        have g : decide (K = 1) = false := g
        rw [decide_eq_false_iff_not] at g
        refine h_call (c := cHas sg17) rfl trivial fun rs hk hr => ?_
        have hr : rs = [.b (hasBox X Y S (a + (m : Int)) (b + (n : Int)))] := hr
        subst hr
        refine h_ite (fun gh => ?_) (fun gh => ?_)
        · have gh : (!hasBox X Y S (a + (m : Int)) (b + (n : Int))) = true := gh
          rw [Bool.not_eq_true'] at gh
          have hkp : keep (gR X Y Z p q r s S K (a + (m : Int)) (b + (n : Int))) = [] := keep_no (by unfold gR fragL; rw [if_neg g, if_neg (by rw [gh]; simp)]; simp)
          refine h_ite (fun gk => ?_) (fun _ => ?_)
          · have gk : decide (K = 2) = true := gk
            rw [decide_eq_true_eq] at gk
            refine h_needR (256 * (a + (m : Int))) rfl (by omega) ?_
            refine h_needR (256 * (a + (m : Int)) + 128) rfl (by omega) ?_
            refine h_needR (256 * (b + (n : Int))) rfl (by omega) ?_
            refine h_needR (256 * (b + (n : Int)) + 128) rfl (by omega) ?_
            refine h_call (c := c31) rfl (show (-1073742000 ≤ 256 * (a + (m : Int)) + 128 ∧ 256 * (a + (m : Int)) + 128 ≤ 1073742000) ∧ (-268435456 ≤ X ∧ X ≤ 268435456) ∧ 1 ≤ S ∧ S ≤ 64 by omega) fun rs hk hr => ?_
            have hr : rs = [.i (min (max ((256 * (a + (m : Int)) + 128 - X + S * 128) / S) 0) 255)] := hr
            have hv : min (max ((256 * (a + (m : Int)) + 128 - X + S * 128) / S) 0) 255 = colI K X S p (a + (m : Int)) := by unfold colI; rw [if_pos gk, Int.mul_comm 256]
            rw [hv] at hr
            subst hr
            clear hv
            refine h_call (c := c31) rfl (show (-1073742000 ≤ 256 * (b + (n : Int)) + 128 ∧ 256 * (b + (n : Int)) + 128 ≤ 1073742000) ∧ (-268435456 ≤ Y ∧ Y ≤ 268435456) ∧ 1 ≤ S ∧ S ≤ 64 by omega) fun rs hk hr => ?_
            have hr : rs = [.i (min (max ((256 * (b + (n : Int)) + 128 - Y + S * 128) / S) 0) 255)] := hr
            have hv : min (max ((256 * (b + (n : Int)) + 128 - Y + S * 128) / S) 0) 255 = colI K Y S q (b + (n : Int)) := by unfold colI; rw [if_pos gk, Int.mul_comm 256]
            rw [hv] at hr
            subst hr
            clear hv
            refine h_needR ((a + (m : Int)) + 1) rfl (by omega) (h_again ⟨⟨m + 1, ?_, by omega⟩, ?_⟩)
            · rw [hs, hkp, List.append_nil]
              show [_, DV.i ((a + (m : Int)) + 1)] = [_, DV.i (a + ((m + 1 : Nat) : Int))]
              rw [show (a + (m : Int)) + 1 = a + ((m + 1 : Nat) : Int) by omega]
              rfl
            · show (c - ((a + (m : Int)) + 1)).toNat < (c - (a + (m : Int))).toNat
              omega
          · refine h_needR ((a + (m : Int)) + 1) rfl (by omega) (h_again ⟨⟨m + 1, ?_, by omega⟩, ?_⟩)
            · rw [hs, hkp, List.append_nil]
              show [_, DV.i ((a + (m : Int)) + 1)] = [_, DV.i (a + ((m + 1 : Nat) : Int))]
              rw [show (a + (m : Int)) + 1 = a + ((m + 1 : Nat) : Int) by omega]
              rfl
            · show (c - ((a + (m : Int)) + 1)).toNat < (c - (a + (m : Int))).toNat
              omega
        have gh : (!hasBox X Y S (a + (m : Int)) (b + (n : Int))) = false := gh
        rw [Bool.not_eq_false'] at gh
        refine h_ite (fun gk => ?_) (fun gk => ?_)
        · have gk : decide (K = 2) = true := gk
          rw [decide_eq_true_eq] at gk
          refine h_needR (256 * (a + (m : Int))) rfl (by omega) ?_
          refine h_needR (256 * (a + (m : Int)) + 128) rfl (by omega) ?_
          refine h_needR (256 * (b + (n : Int))) rfl (by omega) ?_
          refine h_needR (256 * (b + (n : Int)) + 128) rfl (by omega) ?_
          refine h_call (c := c31) rfl (show (-1073742000 ≤ 256 * (a + (m : Int)) + 128 ∧ 256 * (a + (m : Int)) + 128 ≤ 1073742000) ∧ (-268435456 ≤ X ∧ X ≤ 268435456) ∧ 1 ≤ S ∧ S ≤ 64 by omega) fun rs hk hr => ?_
          have hr : rs = [.i (min (max ((256 * (a + (m : Int)) + 128 - X + S * 128) / S) 0) 255)] := hr
          have hv : min (max ((256 * (a + (m : Int)) + 128 - X + S * 128) / S) 0) 255 = colI K X S p (a + (m : Int)) := by unfold colI; rw [if_pos gk, Int.mul_comm 256]
          rw [hv] at hr
          subst hr
          clear hv
          refine h_call (c := c31) rfl (show (-1073742000 ≤ 256 * (b + (n : Int)) + 128 ∧ 256 * (b + (n : Int)) + 128 ≤ 1073742000) ∧ (-268435456 ≤ Y ∧ Y ≤ 268435456) ∧ 1 ≤ S ∧ S ≤ 64 by omega) fun rs hk hr => ?_
          have hr : rs = [.i (min (max ((256 * (b + (n : Int)) + 128 - Y + S * 128) / S) 0) 255)] := hr
          have hv : min (max ((256 * (b + (n : Int)) + 128 - Y + S * 128) / S) 0) 255 = colI K Y S q (b + (n : Int)) := by unfold colI; rw [if_pos gk, Int.mul_comm 256]
          rw [hv] at hr
          subst hr
          clear hv
          have hrow : (gR X Y Z p q r s S K (a + (m : Int)) (b + (n : Int))) = [(a + (m : Int)), (b + (n : Int)), Z, colI K X S p (a + (m : Int)), colI K Y S q (b + (n : Int)), r, s, 64] := by
            unfold gR fragL
            rw [if_neg g, if_pos gh]
          have hkp := keep_pos (l := (gR X Y Z p q r s S K (a + (m : Int)) (b + (n : Int)))) (by rw [hrow]; show (0 : Int) < 64; omega)
          refine h_letE (M := [(gR X Y Z p q r s S K (a + (m : Int)) (b + (n : Int)))]) (by rw [hrow]; rfl) ?_
          refine h_need (show decide ((((((allN (gR X Y Z p q r s S K) a (c - a).toNat b n) ++ rowN (gR X Y Z p q r s S K) a m (b + (n : Int)))).length : Nat) : Int) + ((1 : Nat) : Int) ≤ 2199023255552) = true from decide_eq_true (by rw [List.length_append]; omega)) ?_
          refine h_letE (M := ((allN (gR X Y Z p q r s S K) a (c - a).toNat b n) ++ rowN (gR X Y Z p q r s S K) a m (b + (n : Int))) ++ [(gR X Y Z p q r s S K (a + (m : Int)) (b + (n : Int)))]) rfl ?_
          refine h_needR ((a + (m : Int)) + 1) rfl (by omega) (h_again ⟨⟨m + 1, ?_, by omega⟩, ?_⟩)
          · rw [hs, hkp, ← List.append_assoc]
            show [_, DV.i ((a + (m : Int)) + 1)] = [_, DV.i (a + ((m + 1 : Nat) : Int))]
            rw [show (a + (m : Int)) + 1 = a + ((m + 1 : Nat) : Int) by omega]
            rfl
          · show (c - ((a + (m : Int)) + 1)).toNat < (c - (a + (m : Int))).toNat
            omega
        · have gk : decide (K = 2) = false := gk
          rw [decide_eq_false_iff_not] at gk
          have hrow : (gR X Y Z p q r s S K (a + (m : Int)) (b + (n : Int))) = [(a + (m : Int)), (b + (n : Int)), Z, p, q, r, s, 64] := by
            unfold gR fragL
            rw [if_neg g, if_pos gh, show colI K X S p (a + (m : Int)) = p by unfold colI; rw [if_neg gk], show colI K Y S q (b + (n : Int)) = q by unfold colI; rw [if_neg gk]]
          have hkp := keep_pos (l := (gR X Y Z p q r s S K (a + (m : Int)) (b + (n : Int)))) (by rw [hrow]; show (0 : Int) < 64; omega)
          refine h_letE (M := [(gR X Y Z p q r s S K (a + (m : Int)) (b + (n : Int)))]) (by rw [hrow]; rfl) ?_
          refine h_need (show decide ((((((allN (gR X Y Z p q r s S K) a (c - a).toNat b n) ++ rowN (gR X Y Z p q r s S K) a m (b + (n : Int)))).length : Nat) : Int) + ((1 : Nat) : Int) ≤ 2199023255552) = true from decide_eq_true (by rw [List.length_append]; omega)) ?_
          refine h_letE (M := ((allN (gR X Y Z p q r s S K) a (c - a).toNat b n) ++ rowN (gR X Y Z p q r s S K) a m (b + (n : Int))) ++ [(gR X Y Z p q r s S K (a + (m : Int)) (b + (n : Int)))]) rfl ?_
          refine h_needR ((a + (m : Int)) + 1) rfl (by omega) (h_again ⟨⟨m + 1, ?_, by omega⟩, ?_⟩)
          · rw [hs, hkp, ← List.append_assoc]
            show [_, DV.i ((a + (m : Int)) + 1)] = [_, DV.i (a + ((m + 1 : Nat) : Int))]
            rw [show (a + (m : Int)) + 1 = a + ((m + 1 : Nat) : Int) by omega]
            rfl
          · show (c - ((a + (m : Int)) + 1)).toNat < (c - (a + (m : Int))).toNat
            omega
      · have hc2 : decide (a + (m : Int) < c) = false := hc2
        rw [decide_eq_false_iff_not] at hc2
        have : m = (c - a).toNat := by omega
        subst this
        refine h_needR ((b + (n : Int)) + 1) rfl (by omega) (h_again2 rfl ⟨⟨n + 1, ?_, by omega⟩, ?_⟩)
        · rw [allN_succ]
          show [_, DV.i ((b + (n : Int)) + 1)] = [_, DV.i (b + ((n + 1 : Nat) : Int))]
          rw [show (b + (n : Int)) + 1 = b + ((n + 1 : Nat) : Int) by omega]
          rfl
        · show (d - ((b + (n : Int)) + 1)).toNat < (d - (b + (n : Int))).toNat
          omega
    · have hc : decide (b + (n : Int) < d) = false := hc
      rw [decide_eq_false_iff_not] at hc
      have : n = (d - b).toNat := by omega
      subst this
      show _ = [DV.l (refL X Y Z p q r s S K a b c d)]
      rw [hP]
      rfl
  · cases hp
def cSame : Contract := CFn sg13 (fun | [.l l, .l m] => m = l ∧ l.length ≤ 1000000000 | _ => False) (fun | [.l l, .l m] => [.b true] | _ => [])
theorem ok13 : ContractOk Try.prog 13 cSame := by
  refine contract_of (Γ := knownOf []) known_nil Try.func13 rfl rfl is13 fun ds hk hp => ?_
  split at hp
  · skip
    rename_i l m
    obtain ⟨rfl, hl⟩ := hp
    refine h_ite (fun g => absurd (show (!decide ((m.length : Int) = (m.length : Int))) = true from g) (by simp)) (fun _ => ?_)
    refine h_loop (fun ds => ∃ (i : Nat) (x : Bool), ds = [.b x, .i i] ∧ i ≤ m.length) (fun | _ :: .i i :: _ => ((m.length : Int) - i).toNat | _ => 0) ⟨0, _, rfl, by omega⟩ ?_
    intro ds _ ⟨i, x, hds, hi⟩
    subst hds
    refine h_ite (fun hc => ?_) (fun hc => ?_)
    · have hc : decide ((i : Int) < (m.length : Int)) = true := hc
      simp only [Env.sets, Env.set, BE.den, IE.den, DE.den, DV.int, DV.bool, DV.list, LOp.den, List.map_cons, List.map_nil, Nat.reduceEqDiff, ↓reduceIte, reduceCtorEq, Bool.and_eq_true, Bool.or_eq_true, Bool.not_eq_true', Bool.not_eq_false', Bool.and_eq_false_iff, Bool.or_eq_false_iff, decide_eq_true_eq, decide_eq_false_iff_not] at hc
      iterate 2 refine h_need (by simp only [Env.sets, Env.set, BE.den, IE.den, DE.den, DV.int, DV.bool, DV.list, LOp.den, List.map_cons, List.map_nil, Nat.reduceEqDiff, ↓reduceIte, reduceCtorEq, Bool.and_eq_true, Bool.or_eq_true, Bool.not_eq_true', Bool.not_eq_false', Bool.and_eq_false_iff, Bool.or_eq_false_iff, decide_eq_true_eq, decide_eq_false_iff_not]; omega) ?_
      refine h_ite (fun g => ?_) (fun g => ?_)
      · have g : (!(decide (cellAt m (i : Int) 0 = cellAt m (i : Int) 0) && (decide (cellAt m (i : Int) 1 = cellAt m (i : Int) 1) && (decide (cellAt m (i : Int) 2 = cellAt m (i : Int) 2) && (decide (cellAt m (i : Int) 3 = cellAt m (i : Int) 3) && (decide (cellAt m (i : Int) 4 = cellAt m (i : Int) 4) && (decide (cellAt m (i : Int) 5 = cellAt m (i : Int) 5) && (decide (cellAt m (i : Int) 6 = cellAt m (i : Int) 6) && (decide (cellAt m (i : Int) 7 = cellAt m (i : Int) 7)))))))))) = true := g
        simp at g
      · refine h_needR ((i : Int) + 1) rfl (by omega) (h_again ⟨⟨i + 1, _, rfl, by omega⟩, ?_⟩)
        show ((m.length : Int) - ((i : Int) + 1)).toNat < ((m.length : Int) - (i : Int)).toNat
        omega
    · rfl
  · cases hp
end Go.Proofs.Ytkoacdplkanhhaa.Fns
