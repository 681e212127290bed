/- Layer 19: the law DotMoves, as a function. -/
import Derived.Test.YtkoacdplkanhhaaPlain3
set_option linter.unusedVariables false
set_option linter.unusedSimpArgs false
set_option maxRecDepth 10000
namespace Go.Proofs.Ytkoacdplkanhhaa.Fns
open Go.Sx Go.Proofs.Ytkoacdplkanhhaa.Trees

def wX (X u : Int) : Int := IntKind.i64.wrap (X + IntKind.i64.wrap (256 * IntKind.i64.wrap u))
theorem wX_in {X u : Int} : in64 (wX X u) := by
  unfold wX in64
  generalize X + IntKind.i64.wrap (256 * IntKind.i64.wrap u) = n
  rw [IntKind.wrap_i64]
  omega
theorem wX_eq {X u : Int} (h : -268435456 ≤ X ∧ X ≤ 268435456) (hu : -128 ≤ u ∧ u ≤ 127) : wX X u = X + 256 * u := by
  unfold wX
  simp only [IntKind.wrap_i64]
  omega
theorem wr_add {n u : Int} (h : -10000000 ≤ n ∧ n ≤ 10000000) (hu : -128 ≤ u ∧ u ≤ 127) : IntKind.i64.wrap (n + IntKind.i64.wrap u) = n + u := by
  simp only [IntKind.wrap_i64]
  omega
theorem wr_sub {n u : Int} (h : -10000000 ≤ n ∧ n ≤ 10000000) (hu : -128 ≤ u ∧ u ≤ 127) : IntKind.i64.wrap (n + u - IntKind.i64.wrap u) = n := by
  simp only [IntKind.wrap_i64]
  omega
theorem wr_one {n : Int} (h : 0 ≤ n ∧ n ≤ 10000000) : IntKind.i64.wrap (n + 1) = n + 1 := by
  simp only [IntKind.wrap_i64]
  omega
theorem whole_bd {X Y Z p q r s S : Int} (h : sizeP X Y Z p q r s S) : (-5000000 ≤ X.tdiv 256 - S - 2 ∧ X.tdiv 256 + S + 3 ≤ 5000000) ∧ (-5000000 ≤ Y.tdiv 256 - S - 2 ∧ Y.tdiv 256 + S + 3 ≤ 5000000) := by
  have := whole_right h
  unfold rightP at this
  omega
def c5 : Contract := CFn sg5 (fun | [.i X, .i Y, .i Z, .i p, .i q, .i r, .i s, .i S, .i K, .i a, .i b, .i c, .i d, .i u, .i v] => ((in64 X ∧ in64 Y ∧ in64 Z ∧ in64 p ∧ in64 q ∧ in64 r ∧ in64 s) ∧ in64 S ∧ in64 K) ∧ (-128 ≤ u ∧ u ≤ 127) ∧ (-128 ≤ v ∧ v ≤ 127) | _ => False) (fun _ => [.b true])
theorem ok5 : ContractOk Try.prog 5 c5 := by
  refine contract_of (Γ := knownOf [(8, c8), (10, cRightD sg10), (14, c14), (16, c16), (17, cHas sg17), (18, cAnd sg18)]) (known_cons ok8 rfl (known_cons ok10 rfl (known_cons ok14 rfl (known_cons ok16 rfl (known_cons ok17 rfl (known_cons ok18 rfl known_nil)))))) Try.func5 rfl rfl is5 fun ds hk hp => ?_
  split at hp
  · skip
    rename_i X Y Z p q r s S K a b c d u v
    obtain ⟨hin, hu, hv⟩ := hp
    have hinW : (in64 (wX X u) ∧ in64 (wX Y v) ∧ in64 Z ∧ in64 p ∧ in64 q ∧ in64 r ∧ in64 s) := ⟨wX_in, wX_in, hin.1.2.2⟩
    have z0 : in64 0 := by unfold in64; omega
    refine h_ite (fun _ => ?_) (fun g => ?_)
    · refine h_call (c := c8) rfl trivial fun rs hk hr => ?_
      have hr : rs = [.b true] := hr
      subst hr
      rfl
    have g : ((decide (K < 0) || decide (2 < K)) || decide (20 < S)) = false := g
    simp only [Bool.or_eq_false_iff, decide_eq_false_iff_not] at g
    refine h_call (c := cRightD sg10) rfl (show (in64 X ∧ in64 Y ∧ in64 Z ∧ in64 p ∧ in64 q ∧ in64 r ∧ in64 s) ∧ in64 S ∧ in64 0 from ⟨hin.1, hin.2.1, z0⟩) fun rs hk hr => ?_
    have hr : rs = [.b (decide (rightD X Y Z p q r s S 0))] := hr
    subst hr
    refine h_callg (c := cRightD sg10) rfl (fun _ => show (in64 (wX X u) ∧ in64 (wX Y v) ∧ in64 Z ∧ in64 p ∧ in64 q ∧ in64 r ∧ in64 s) ∧ in64 S ∧ in64 0 from ⟨hinW, hin.2.1, z0⟩) fun rs hk hr2 => ?_
    obtain ⟨b2, rfl⟩ := kinds1b hk
    have hr2 : decide (rightD X Y Z p q r s S 0) = true → [DV.b b2] = [DV.b (decide (rightD (wX X u) (wX Y v) Z p q r s S 0))] := hr2
    refine h_ite (fun _ => ?_) (fun g2 => ?_)
    · refine h_call (c := c8) rfl trivial fun rs hk hr => ?_
      have hr : rs = [.b true] := hr
      subst hr
      rfl
    have g2 : (!decide (rightD X Y Z p q r s S 0) || !b2) = false := g2
    simp only [Bool.or_eq_false_iff, Bool.not_eq_false'] at g2
    obtain ⟨gR, rfl⟩ := g2
    have hW := of_decide_eq_true (b_of (hr2 gR)).symm
    have hR0 := of_decide_eq_true gR
    clear hr2
    have hsz := hR0.1
    have hR : rightD X Y Z p q r s S K := ⟨hsz, by omega, by omega⟩
    have hX := wX_eq hsz.1.2.1 hu
    have hY := wX_eq hsz.1.2.2.1 hv
    rw [hX, hY] at hW
    obtain ⟨⟨d1, d2⟩, d3, d4⟩ := whole_bd hsz
    obtain ⟨s1, s2⟩ := hsz.2
    refine h_call (c := c16) rfl hsz fun rs hk hr => ?_
    have hr : rs = [.i (X.tdiv 256 - S - 2), .i (Y.tdiv 256 - S - 2), .i (X.tdiv 256 + S + 3), .i (Y.tdiv 256 + S + 3)] := hr
    subst hr
    have hlen := move_len hR
    have hmv := moves hR hW.1 hu hv
    have hsh := shows (a := a) (b := b) (c := c) (d := d) hR
    refine h_call (c := c14) rfl (show (in64 X ∧ in64 Y ∧ in64 Z ∧ in64 p ∧ in64 q ∧ in64 r ∧ in64 s) ∧ in64 S ∧ in64 K from hin) fun rs hk hr => ?_
    have hr : rs = [.l (pointL X Y Z p q r s S K (X.tdiv 256 - S - 2) (Y.tdiv 256 - S - 2) (X.tdiv 256 + S + 3) (Y.tdiv 256 + S + 3))] := hr
    obtain ⟨A, hA⟩ : ∃ A, A = pointL X Y Z p q r s S K (X.tdiv 256 - S - 2) (Y.tdiv 256 - S - 2) (X.tdiv 256 + S + 3) (Y.tdiv 256 + S + 3) := ⟨_, rfl⟩
    rw [← hA] at hr hlen hmv hsh
    subst hr
    refine h_call (c := c14) rfl (show (in64 (wX X u) ∧ in64 (wX Y v) ∧ in64 Z ∧ in64 p ∧ in64 q ∧ in64 r ∧ in64 s) ∧ in64 S ∧ in64 K from ⟨hinW, hin.2⟩) fun rs hk hr => ?_
    have hr : rs = [.l (pointL (wX X u) (wX Y v) Z p q r s S K (IntKind.i64.wrap (X.tdiv 256 - S - 2 + IntKind.i64.wrap u)) (IntKind.i64.wrap (Y.tdiv 256 - S - 2 + IntKind.i64.wrap v)) (IntKind.i64.wrap (X.tdiv 256 + S + 3 + IntKind.i64.wrap u)) (IntKind.i64.wrap (Y.tdiv 256 + S + 3 + IntKind.i64.wrap v)))] := hr
    rw [hX, hY, wr_add (n := X.tdiv 256 - S - 2) (by omega) hu, wr_add (n := Y.tdiv 256 - S - 2) (by omega) hv, wr_add (n := X.tdiv 256 + S + 3) (by omega) hu, wr_add (n := Y.tdiv 256 + S + 3) (by omega) hv, hmv] at hr
    obtain ⟨B, hB⟩ : ∃ B, B = A.map (shiftL u v) := ⟨_, rfl⟩
    rw [← hB] at hr
    subst hr
    have hlB : B.length = A.length := by rw [hB, List.length_map]
    refine h_call (c := cAnd sg18) rfl trivial fun rs hk hr => ?_
    have hr : rs = andL (X.tdiv 256 - S - 2) (Y.tdiv 256 - S - 2) (X.tdiv 256 + S + 3) (Y.tdiv 256 + S + 3) a b c d := hr
    rw [show andL (X.tdiv 256 - S - 2) (Y.tdiv 256 - S - 2) (X.tdiv 256 + S + 3) (Y.tdiv 256 + S + 3) a b c d = [.i (andX (X.tdiv 256 - S - 2) (Y.tdiv 256 - S - 2) (X.tdiv 256 + S + 3) (Y.tdiv 256 + S + 3) a b c d).1, .i (andX (X.tdiv 256 - S - 2) (Y.tdiv 256 - S - 2) (X.tdiv 256 + S + 3) (Y.tdiv 256 + S + 3) a b c d).2.1, .i (andX (X.tdiv 256 - S - 2) (Y.tdiv 256 - S - 2) (X.tdiv 256 + S + 3) (Y.tdiv 256 + S + 3) a b c d).2.2.1, .i (andX (X.tdiv 256 - S - 2) (Y.tdiv 256 - S - 2) (X.tdiv 256 + S + 3) (Y.tdiv 256 + S + 3) a b c d).2.2.2] by unfold andL andX; split <;> rfl] at hr
    subst hr
    refine h_call (c := c14) rfl (show (in64 X ∧ in64 Y ∧ in64 Z ∧ in64 p ∧ in64 q ∧ in64 r ∧ in64 s) ∧ in64 S ∧ in64 K from hin) fun rs hk hr => ?_
    have hr : rs = [.l (pointL X Y Z p q r s S K (andX (X.tdiv 256 - S - 2) (Y.tdiv 256 - S - 2) (X.tdiv 256 + S + 3) (Y.tdiv 256 + S + 3) a b c d).1 (andX (X.tdiv 256 - S - 2) (Y.tdiv 256 - S - 2) (X.tdiv 256 + S + 3) (Y.tdiv 256 + S + 3) a b c d).2.1 (andX (X.tdiv 256 - S - 2) (Y.tdiv 256 - S - 2) (X.tdiv 256 + S + 3) (Y.tdiv 256 + S + 3) a b c d).2.2.1 (andX (X.tdiv 256 - S - 2) (Y.tdiv 256 - S - 2) (X.tdiv 256 + S + 3) (Y.tdiv 256 + S + 3) a b c d).2.2.2)] := hr
    rw [hsh] at hr
    obtain ⟨C, hC⟩ : ∃ C, C = A.filter (inR a b c d) := ⟨_, rfl⟩
    rw [← hC] at hr
    subst hr
    clear hmv hsh
    refine h_ite (fun h => ?_) (fun _ => ?_)
    · have h : (!decide ((A.length : Int) = (B.length : Int))) = true := h
      rw [hlB] at h
      simp at h
    refine h_loop (fun ds => ∃ i : Nat, ds = [.b false, .i ((((A.take i).filter (inR a b c d)).length : Nat) : Int), .i i] ∧ i ≤ A.length) (fun | [_, _, .i i] => ((A.length : Int) - i).toNat | _ => 0) ⟨0, rfl, by omega⟩ ?_
    intro ds _ ⟨i, hds, hi⟩
    subst hds
    refine h_ite (fun hc => ?_) (fun hc => ?_)
    · have hc : decide ((i : Int) < (A.length : Int)) = true := hc
      rw [decide_eq_true_eq] at hc
      have hiA : i < A.length := by omega
      have hn1 : ((A.take i).filter (inR a b c d)).length ≤ 20000 := Nat.le_trans (List.length_filter_le ..) (by rw [List.length_take]; omega)
      obtain ⟨m0, m1⟩ := move_cells hR hA hiA
      obtain ⟨b0, b1, b2, b3, b4, b5, b6, b7⟩ := cell_shift (u := u) (v := v) hiA
      rw [← hB] at b0 b1 b2 b3 b4 b5 b6 b7
      have e0 : IntKind.i64.wrap (cellAt B i 0 - IntKind.i64.wrap u) = cellAt A i 0 := by rw [b0]; exact wr_sub (by omega) hu
      have e1 : IntKind.i64.wrap (cellAt B i 1 - IntKind.i64.wrap v) = cellAt A i 1 := by rw [b1]; exact wr_sub (by omega) hv
      have hg : A[i]? = some A[i] := List.getElem?_eq_getElem hiA
      have hst := filter_step (P := inR a b c d) hiA
      have hw1 := wr_one (n := (i : Int)) (by omega)
      have hw2 := wr_one (n := ((((A.take i).filter (inR a b c d)).length : Nat) : Int)) (by omega)
      refine h_need (decide_eq_true (show (0 : Int) ≤ (i : Int) by omega)) ?_
      refine h_need (decide_eq_true (show (i : Int) < (B.length : Int) by omega)) ?_
      refine h_ite (fun h => ?_) (fun _ => ?_)
      · exfalso
        simp only [Env.sets, Env.set, BE.den, IE.den, DE.den, DV.int, DV.bool, DV.list, LOp.den, List.map_cons, List.map_nil, Nat.reduceEqDiff, ↓reduceIte, reduceCtorEq, Bool.and_eq_true, Bool.or_eq_true, Bool.not_eq_true', Bool.not_eq_false', Bool.and_eq_false_iff, Bool.or_eq_false_iff, decide_eq_true_eq, decide_eq_false_iff_not] at h
        omega
      refine h_call (c := cHas sg17) rfl trivial fun rs hk hr => ?_
      have hr : rs = [.b (hasB a b c d (IntKind.i64.wrap (cellAt B i 0 - IntKind.i64.wrap u)) (IntKind.i64.wrap (cellAt B i 1 - IntKind.i64.wrap v)))] := hr
      rw [e0, e1] at hr
      have hin : hasB a b c d (cellAt A i 0) (cellAt A i 1) = inR a b c d A[i] := by rw [cell_get hg, cell_get hg]; rfl
      rw [hin] at hr
      subst hr
      refine h_ite (fun h => ?_) (fun h => ?_)
      · have h : inR a b c d A[i] = true := h
        have hat := filter_at (P := inR a b c d) hiA h
        rw [← hC] at hat
        have hlt : ((A.take i).filter (inR a b c d)).length < C.length := by
          rcases Nat.lt_or_ge ((A.take i).filter (inR a b c d)).length C.length with h1 | h1
          · exact h1
          · rw [List.getElem?_eq_none h1] at hat; cases hat
        have ec : ∀ j, cellAt C ((((A.take i).filter (inR a b c d)).length : Nat) : Int) j = cellAt A i j := fun j => by rw [cell_get hat, cell_get hg]
        have c0 := ec 0
        have c1 := ec 1
        have c2 := ec 2
        have c3 := ec 3
        have c4 := ec 4
        have c5 := ec 5
        have c6 := ec 6
        have c7 := ec 7
        iterate 2 refine h_need (by simp only [Env.sets, Env.set, BE.den, IE.den, DE.den, DV.int, DV.bool, DV.list, LOp.den, List.map_cons, List.map_nil, Nat.reduceEqDiff, ↓reduceIte, reduceCtorEq, Bool.and_eq_true, Bool.or_eq_true, Bool.not_eq_true', Bool.not_eq_false', Bool.and_eq_false_iff, Bool.or_eq_false_iff, decide_eq_true_eq, decide_eq_false_iff_not]; omega) ?_
        refine h_ite (fun h => ?_) (fun _ => ?_)
        · exfalso
          simp only [Env.sets, Env.set, BE.den, IE.den, DE.den, DV.int, DV.bool, DV.list, LOp.den, List.map_cons, List.map_nil, Nat.reduceEqDiff, ↓reduceIte, reduceCtorEq, Bool.and_eq_true, Bool.or_eq_true, Bool.not_eq_true', Bool.not_eq_false', Bool.and_eq_false_iff, Bool.or_eq_false_iff, decide_eq_true_eq, decide_eq_false_iff_not] at h
          omega
        rw [if_pos h] at hst
        refine h_again ⟨⟨i + 1, ?_, by omega⟩, ?_⟩
        · show [_, DV.i (IntKind.i64.wrap (((((A.take i).filter (inR a b c d)).length : Nat) : Int) + 1)), DV.i (IntKind.i64.wrap ((i : Int) + 1))] = [_, DV.i ((((A.take (i + 1)).filter (inR a b c d)).length : Nat) : Int), DV.i ((i + 1 : Nat) : Int)]
          rw [hw1, hw2, hst, List.length_append]
          rfl
        · show ((A.length : Int) - IntKind.i64.wrap ((i : Int) + 1)).toNat < ((A.length : Int) - (i : Int)).toNat
          omega
      · have h : inR a b c d A[i] = false := h
        rw [if_neg (by rw [h]; decide), List.append_nil] at hst
        refine h_again ⟨⟨i + 1, ?_, by omega⟩, ?_⟩
        · show [_, DV.i ((((A.take i).filter (inR a b c d)).length : Nat) : Int), DV.i (IntKind.i64.wrap ((i : Int) + 1))] = [_, DV.i ((((A.take (i + 1)).filter (inR a b c d)).length : Nat) : Int), DV.i ((i + 1 : Nat) : Int)]
          rw [hw1, hst]
          rfl
        · show ((A.length : Int) - IntKind.i64.wrap ((i : Int) + 1)).toNat < ((A.length : Int) - (i : Int)).toNat
          omega
    · have hc : decide ((i : Int) < (A.length : Int)) = false := hc
      rw [decide_eq_false_iff_not] at hc
      have hi : i = A.length := by omega
      subst hi
      refine h_call (c := c8) rfl trivial fun rs hk hr => ?_
      have hr : rs = [.b true] := hr
      subst hr
      show [DV.b (true && decide (((((A.take A.length).filter (inR a b c d)).length : Nat) : Int) = (C.length : Int)))] = [DV.b true]
      rw [List.take_length, ← hC, decide_eq_true rfl]
      rfl
  · cases hp
theorem pre5 (dvs : List DV) (hh : dvsIn (cts sg5.args) dvs) : c5.pre dvs := by
  simp only [sg5, cts, List.flatMap_cons, List.flatMap_nil, VT.cts, List.append_nil, List.cons_append, List.nil_append] at hh
  match dvs, hh with
  | [.i X, .i Y, .i Z, .i p, .i q, .i r, .i s, .i S, .i K, .i a, .i b, .i c, .i d, .i u, .i v], hh => obtain ⟨h0, h1, h2, h3, h4, h5, h6, h7, h8, _, _, _, _, h13, h14, _⟩ := hh; exact ⟨⟨⟨h0, h1, h2, h3, h4, h5, h6⟩, h7, h8⟩, h13, h14⟩

end Go.Proofs.Ytkoacdplkanhhaa.Fns
