/- Layer 6: what the matrices' functions do. -/
import Derived.Test.YtnpmcfjagijkgaaSxH2
import Derived.Test.YtnpmcfjagijkgaaTrees
set_option linter.unusedVariables false
set_option linter.unusedSimpArgs false
set_option maxRecDepth 10000
namespace Go.Proofs.Ytnpmcfjagijkgaa.Fns
open Go.Sx Go.Proofs.Ytnpmcfjagijkgaa.Trees

theorem i_of {a b : Int} (h : [DV.i a] = [DV.i b]) : a = b := by simpa using h
theorem b_of {a b : Bool} (h : [DV.b a] = [DV.b b]) : a = b := by simpa using h
theorem retB {X : Bool} {P : Prop} [Decidable P] (h : X = true ↔ P) : [DV.b X] = [DV.b (decide P)] := by
  by_cases hp : P
  · simp [hp, h.2 hp]
  · simp [hp, Bool.eq_false_iff.2 (fun hx => hp (h.1 hx))]
theorem eqb {p q : Prop} [Decidable p] [Decidable q] (h : p ↔ q) : decide p = decide q := by simp [h]
theorem retI {a b : Int} (h : b = a) : [DV.i a] = [DV.i b] := by rw [h]
theorem retT {P : Prop} [Decidable P] (h : P) : [DV.b true] = [DV.b (decide P)] := by simp [h]
theorem retN {P : Prop} [Decidable P] (h : ¬ P) : [DV.b false] = [DV.b (decide P)] := by simp [h]
theorem h_letE {Γ : Known} {R : List DV → Prop} {env : Env} {F : Nat → List DV → Prop} {t : Tree} {id : Nat} {op : LOp} {M : List (List Int)} (e : op.den env = M) (ht : t.holds Γ R (env.set id (.l M)) F) : (Tree.ev (.letl id op) t).holds Γ R env F := by
  subst e; exact ht
theorem floor_spec {n d : Int} (hd : 0 < d) : (n.tmod d < 0 → n.tdiv d = n / d + 1) ∧ (0 ≤ n.tmod d → n.tdiv d = n / d) := by
  have hs : d.sign = 1 := Int.sign_eq_one_of_pos hd
  rw [Int.tdiv_eq_ediv, Int.tmod_eq_emod, hs]
  have h1 := Int.emod_nonneg n (show d ≠ 0 by omega)
  have h2 := Int.emod_lt_of_pos n hd
  split <;> rename_i h <;> omega
theorem tdiv_le {n d : Int} (hd : 0 < d) (h1 : -4611686018427387904 ≤ n) (h2 : n ≤ 4611686018427387904) : -4611686018427387904 ≤ n.tdiv d ∧ n.tdiv d ≤ 4611686018427387904 := by
  have := Int.natAbs_tdiv_le_natAbs n d
  omega
theorem mul_bd {a b A B : Int} (h1 : -A ≤ a) (h2 : a ≤ A) (h3 : -B ≤ b) (h4 : b ≤ B) : -(A * B) ≤ a * b ∧ a * b ≤ A * B := by
  have e1 := Int.mul_nonneg (show 0 ≤ A - a by omega) (show 0 ≤ B - b by omega)
  have e2 := Int.mul_nonneg (show 0 ≤ A + a by omega) (show 0 ≤ B + b by omega)
  have e3 := Int.mul_nonneg (show 0 ≤ A - a by omega) (show 0 ≤ B + b by omega)
  have e4 := Int.mul_nonneg (show 0 ≤ A + a by omega) (show 0 ≤ B - b by omega)
  constructor <;> grind
def bigP (x : Int) : Prop := -4611686018427387904 ≤ x ∧ x ≤ 4611686018427387904
def inB (x : Int) : Prop := -268435456 ≤ x ∧ x ≤ 268435456
instance (x : Int) : Decidable (inB x) := inferInstanceAs (Decidable (_ ∧ _))
def rightP (l : List Int) : Prop := ∀ x ∈ l, inB x
instance (l : List Int) : Decidable (rightP l) := inferInstanceAs (Decidable (∀ x ∈ l, inB x))
theorem bd1 {a b : Int} (h1 : inB a) (h2 : inB b) : -72057594037927936 ≤ a * b ∧ a * b ≤ 72057594037927936 := mul_bd (A := 268435456) (B := 268435456) h1.1 h1.2 h2.1 h2.2
abbrev ok64 (n : Int) : Prop := -9223372036854775808 ≤ n ∧ n ≤ 9223372036854775807
theorem nd1 {a b : Int} (h1 : inB a) (h2 : inB b) : ok64 (a * b) := by have := bd1 h1 h2; unfold ok64; omega
theorem nd2 {a b c d : Int} (h1 : inB a) (h2 : inB b) (h3 : inB c) (h4 : inB d) : ok64 (a * b + c * d) := by
  have := bd1 h1 h2
  have := bd1 h3 h4
  unfold ok64; omega
theorem nd3 {a b c d e f : Int} (h1 : inB a) (h2 : inB b) (h3 : inB c) (h4 : inB d) (h5 : inB e) (h6 : inB f) : ok64 (a * b + c * d + e * f) := by
  have := bd1 h1 h2
  have := bd1 h3 h4
  have := bd1 h5 h6
  unfold ok64; omega
theorem nd4 {a b c d e f g h : Int} (h1 : inB a) (h2 : inB b) (h3 : inB c) (h4 : inB d) (h5 : inB e) (h6 : inB f) (h7 : inB g) (h8 : inB h) : ok64 (a * b + c * d + e * f + g * h) := by
  have := bd1 h1 h2
  have := bd1 h3 h4
  have := bd1 h5 h6
  have := bd1 h7 h8
  unfold ok64; omega
theorem big4 {a b c d e f g h : Int} (h1 : inB a) (h2 : inB b) (h3 : inB c) (h4 : inB d) (h5 : inB e) (h6 : inB f) (h7 : inB g) (h8 : inB h) : bigP (a * b + c * d + e * f + g * h) := by
  have := bd1 h1 h2
  have := bd1 h3 h4
  have := bd1 h5 h6
  have := bd1 h7 h8
  unfold bigP; omega
theorem h_needR {Γ : Known} {R : List DV → Prop} {env : Env} {F : Nat → List DV → Prop} {t : Tree} {e : IE} (n : Int) (hn : e.den env = n) (h : ok64 n) (ht : t.holds Γ R env F) :
    (Tree.ev (.need (.and (.le (.c (-9223372036854775808)) e) (.le e (.c 9223372036854775807)))) t).holds Γ R env F := by
  refine h_need ?_ ht
  simp only [BE.den, IE.den, hn, Bool.and_eq_true, decide_eq_true_eq]
  exact h
/-- An entry of a product. -/
def ent (A B : List Int) (i k : Nat) : Int := (A.getD (4*i) 0 * B.getD k 0 + A.getD (4*i+1) 0 * B.getD (4+k) 0 + A.getD (4*i+2) 0 * B.getD (8+k) 0 + A.getD (4*i+3) 0 * B.getD (12+k) 0) / 65536
def prodL (A B : List Int) : List Int := [ent A B 0 0, ent A B 0 1, ent A B 0 2, ent A B 0 3, ent A B 1 0, ent A B 1 1, ent A B 1 2, ent A B 1 3, ent A B 2 0, ent A B 2 1, ent A B 2 2, ent A B 2 3, ent A B 3 0, ent A B 3 1, ent A B 3 2, ent A B 3 3]
def mulI (A B : List Int) (j : Nat) : Int := if rightP A ∧ rightP B ∧ rightP (prodL A B) then (prodL A B).getD j 0 else 0
def mulE (A B : List Int) : Int := if rightP A ∧ rightP B then (if rightP (prodL A B) then 0 else 4) else 1
def appE1 (M v : List Int) (i : Nat) : Int := (M.getD (4*i) 0 * v.getD 0 0 + M.getD (4*i+1) 0 * v.getD 1 0 + M.getD (4*i+2) 0 * v.getD 2 0 + M.getD (4*i+3) 0 * v.getD 3 0) / 65536
def appL (M v : List Int) : List Int := [appE1 M v 0, appE1 M v 1, appE1 M v 2, appE1 M v 3]
def near (most : Int) (l : List Int) : Prop := ∀ x ∈ l, -most ≤ x ∧ x ≤ most
instance (n : Int) (l : List Int) : Decidable (near n l) := inferInstanceAs (Decidable (∀ x ∈ l, _ ∧ _))
def appOk (M v : List Int) (most : Int) : Prop := (rightP M ∧ 0 ≤ most ∧ most ≤ 68719476736) ∧ rightP v
instance (M v : List Int) (n : Int) : Decidable (appOk M v n) := inferInstanceAs (Decidable (_ ∧ _))
def appI (M v : List Int) (most : Int) (j : Nat) : Int := if appOk M v most ∧ near most (appL M v) then (appL M v).getD j 0 else 0
def appE (M v : List Int) (most : Int) : Int := if appOk M v most then (if near most (appL M v) then 0 else 4) else 1
def unitL : List Int := [65536, 0, 0, 0, 0, 65536, 0, 0, 0, 0, 65536, 0, 0, 0, 0, 65536]
def c39 : Contract := CFn sg39 (fun | [.i n, .i most] => bigP most | _ => False) (fun | [.i n, .i most] => [.b (decide (most < n ∨ n < -most))] | _ => [])
def c36 : Contract := CFn sg36 (fun | [.i n, .i most] => bigP most | _ => False) (fun | [.i n, .i most] => [.b (decide (-most ≤ n ∧ n ≤ most))] | _ => [])
def c38 : Contract := CFn sg38 (fun | [.i n] => bigP n | _ => False) (fun | [.i n] => [.i (n / 65536)] | _ => [])
def c37 : Contract := CFn sg37 (fun | [.i a0, .i a1, .i a2, .i a3, .i a4, .i a5, .i a6, .i a7, .i a8, .i a9, .i a10, .i a11, .i a12, .i a13, .i a14, .i a15, .i r, .i c] => (0 ≤ r ∧ r ≤ 3) ∧ 0 ≤ c ∧ c ≤ 3 | _ => False) (fun | [.i a0, .i a1, .i a2, .i a3, .i a4, .i a5, .i a6, .i a7, .i a8, .i a9, .i a10, .i a11, .i a12, .i a13, .i a14, .i a15, .i r, .i c] => [.i (([a0, a1, a2, a3, a4, a5, a6, a7, a8, a9, a10, a11, a12, a13, a14, a15] : List Int).getD (4 * r + c).toNat 0)] | _ => [])
def c40 : Contract := CFn sg40 (fun | [.l m, .i i, .l v] => m.length = 16 ∧ v.length = 4 ∧ (0 ≤ i ∧ i ≤ 3) ∧ (∀ r ∈ m, inB (r.getD 0 0)) ∧ ∀ r ∈ v, inB (r.getD 0 0) | _ => False) (fun | [.l m, .i i, .l v] => [.i ((cellAt m (4*i) 0 * cellAt v 0 0 + cellAt m (4*i+1) 0 * cellAt v 1 0 + cellAt m (4*i+2) 0 * cellAt v 2 0 + cellAt m (4*i+3) 0 * cellAt v 3 0) / 65536)] | _ => [])
def cRight (sg : Sig) : Contract := CFn sg (fun | [.i a0, .i a1, .i a2, .i a3, .i a4, .i a5, .i a6, .i a7, .i a8, .i a9, .i a10, .i a11, .i a12, .i a13, .i a14, .i a15] => True | _ => False) (fun | [.i a0, .i a1, .i a2, .i a3, .i a4, .i a5, .i a6, .i a7, .i a8, .i a9, .i a10, .i a11, .i a12, .i a13, .i a14, .i a15] => [.b (decide (rightP [a0, a1, a2, a3, a4, a5, a6, a7, a8, a9, a10, a11, a12, a13, a14, a15]))] | _ => [])
def cUnit (sg : Sig) : Contract := CFn sg (fun | [] => True | _ => False) (fun | [] => [.i 65536, .i 0, .i 0, .i 0, .i 0, .i 65536, .i 0, .i 0, .i 0, .i 0, .i 65536, .i 0, .i 0, .i 0, .i 0, .i 65536] | _ => [])
def cMul (sg : Sig) : Contract := CFn sg (fun | [.i a0, .i a1, .i a2, .i a3, .i a4, .i a5, .i a6, .i a7, .i a8, .i a9, .i a10, .i a11, .i a12, .i a13, .i a14, .i a15, .i b0, .i b1, .i b2, .i b3, .i b4, .i b5, .i b6, .i b7, .i b8, .i b9, .i b10, .i b11, .i b12, .i b13, .i b14, .i b15] => True | _ => False) (fun | [.i a0, .i a1, .i a2, .i a3, .i a4, .i a5, .i a6, .i a7, .i a8, .i a9, .i a10, .i a11, .i a12, .i a13, .i a14, .i a15, .i b0, .i b1, .i b2, .i b3, .i b4, .i b5, .i b6, .i b7, .i b8, .i b9, .i b10, .i b11, .i b12, .i b13, .i b14, .i b15] => [.i (mulI [a0, a1, a2, a3, a4, a5, a6, a7, a8, a9, a10, a11, a12, a13, a14, a15] [b0, b1, b2, b3, b4, b5, b6, b7, b8, b9, b10, b11, b12, b13, b14, b15] 0), .i (mulI [a0, a1, a2, a3, a4, a5, a6, a7, a8, a9, a10, a11, a12, a13, a14, a15] [b0, b1, b2, b3, b4, b5, b6, b7, b8, b9, b10, b11, b12, b13, b14, b15] 1), .i (mulI [a0, a1, a2, a3, a4, a5, a6, a7, a8, a9, a10, a11, a12, a13, a14, a15] [b0, b1, b2, b3, b4, b5, b6, b7, b8, b9, b10, b11, b12, b13, b14, b15] 2), .i (mulI [a0, a1, a2, a3, a4, a5, a6, a7, a8, a9, a10, a11, a12, a13, a14, a15] [b0, b1, b2, b3, b4, b5, b6, b7, b8, b9, b10, b11, b12, b13, b14, b15] 3), .i (mulI [a0, a1, a2, a3, a4, a5, a6, a7, a8, a9, a10, a11, a12, a13, a14, a15] [b0, b1, b2, b3, b4, b5, b6, b7, b8, b9, b10, b11, b12, b13, b14, b15] 4), .i (mulI [a0, a1, a2, a3, a4, a5, a6, a7, a8, a9, a10, a11, a12, a13, a14, a15] [b0, b1, b2, b3, b4, b5, b6, b7, b8, b9, b10, b11, b12, b13, b14, b15] 5), .i (mulI [a0, a1, a2, a3, a4, a5, a6, a7, a8, a9, a10, a11, a12, a13, a14, a15] [b0, b1, b2, b3, b4, b5, b6, b7, b8, b9, b10, b11, b12, b13, b14, b15] 6), .i (mulI [a0, a1, a2, a3, a4, a5, a6, a7, a8, a9, a10, a11, a12, a13, a14, a15] [b0, b1, b2, b3, b4, b5, b6, b7, b8, b9, b10, b11, b12, b13, b14, b15] 7), .i (mulI [a0, a1, a2, a3, a4, a5, a6, a7, a8, a9, a10, a11, a12, a13, a14, a15] [b0, b1, b2, b3, b4, b5, b6, b7, b8, b9, b10, b11, b12, b13, b14, b15] 8), .i (mulI [a0, a1, a2, a3, a4, a5, a6, a7, a8, a9, a10, a11, a12, a13, a14, a15] [b0, b1, b2, b3, b4, b5, b6, b7, b8, b9, b10, b11, b12, b13, b14, b15] 9), .i (mulI [a0, a1, a2, a3, a4, a5, a6, a7, a8, a9, a10, a11, a12, a13, a14, a15] [b0, b1, b2, b3, b4, b5, b6, b7, b8, b9, b10, b11, b12, b13, b14, b15] 10), .i (mulI [a0, a1, a2, a3, a4, a5, a6, a7, a8, a9, a10, a11, a12, a13, a14, a15] [b0, b1, b2, b3, b4, b5, b6, b7, b8, b9, b10, b11, b12, b13, b14, b15] 11), .i (mulI [a0, a1, a2, a3, a4, a5, a6, a7, a8, a9, a10, a11, a12, a13, a14, a15] [b0, b1, b2, b3, b4, b5, b6, b7, b8, b9, b10, b11, b12, b13, b14, b15] 12), .i (mulI [a0, a1, a2, a3, a4, a5, a6, a7, a8, a9, a10, a11, a12, a13, a14, a15] [b0, b1, b2, b3, b4, b5, b6, b7, b8, b9, b10, b11, b12, b13, b14, b15] 13), .i (mulI [a0, a1, a2, a3, a4, a5, a6, a7, a8, a9, a10, a11, a12, a13, a14, a15] [b0, b1, b2, b3, b4, b5, b6, b7, b8, b9, b10, b11, b12, b13, b14, b15] 14), .i (mulI [a0, a1, a2, a3, a4, a5, a6, a7, a8, a9, a10, a11, a12, a13, a14, a15] [b0, b1, b2, b3, b4, b5, b6, b7, b8, b9, b10, b11, b12, b13, b14, b15] 15), .i (mulE [a0, a1, a2, a3, a4, a5, a6, a7, a8, a9, a10, a11, a12, a13, a14, a15] [b0, b1, b2, b3, b4, b5, b6, b7, b8, b9, b10, b11, b12, b13, b14, b15])] | _ => [])
theorem ok39 : ContractOk Try.prog 39 c39 := by
  refine contract_of (Γ := knownOf []) known_nil Try.func39 rfl rfl is39 fun ds hk hp => ?_
  split at hp
  · skip
    rename_i n most
    unfold bigP at hp
    refine h_need (by simp only [Env.sets, Env.set, BE.den, IE.den, DE.den, DV.int, DV.bool, DV.list, LOp.den, List.map_cons, List.map_nil, Nat.reduceEqDiff, ↓reduceIte, reduceCtorEq, Bool.and_eq_true, Bool.or_eq_true, Bool.not_eq_true', Bool.not_eq_false', Bool.and_eq_false_iff, Bool.or_eq_false_iff, decide_eq_true_eq, decide_eq_false_iff_not]; omega) ?_
    refine retB (P := most < n ∨ n < -most) ?_
    simp only [Env.sets, Env.set, BE.den, IE.den, DE.den, DV.int, DV.bool, DV.list, LOp.den, List.map_cons, List.map_nil, Nat.reduceEqDiff, ↓reduceIte, reduceCtorEq, Bool.and_eq_true, Bool.or_eq_true, Bool.not_eq_true', Bool.not_eq_false', Bool.and_eq_false_iff, Bool.or_eq_false_iff, decide_eq_true_eq, decide_eq_false_iff_not]
    omega
  · cases hp
theorem ok36 : ContractOk Try.prog 36 c36 := by
  refine contract_of (Γ := knownOf []) known_nil Try.func36 rfl rfl is36 fun ds hk hp => ?_
  split at hp
  · skip
    rename_i n most
    unfold bigP at hp
    refine h_need (by simp only [Env.sets, Env.set, BE.den, IE.den, DE.den, DV.int, DV.bool, DV.list, LOp.den, List.map_cons, List.map_nil, Nat.reduceEqDiff, ↓reduceIte, reduceCtorEq, Bool.and_eq_true, Bool.or_eq_true, Bool.not_eq_true', Bool.not_eq_false', Bool.and_eq_false_iff, Bool.or_eq_false_iff, decide_eq_true_eq, decide_eq_false_iff_not]; omega) ?_
    refine retB (P := -most ≤ n ∧ n ≤ most) ?_
    simp only [Env.sets, Env.set, BE.den, IE.den, DE.den, DV.int, DV.bool, DV.list, LOp.den, List.map_cons, List.map_nil, Nat.reduceEqDiff, ↓reduceIte, reduceCtorEq, Bool.and_eq_true, Bool.or_eq_true, Bool.not_eq_true', Bool.not_eq_false', Bool.and_eq_false_iff, Bool.or_eq_false_iff, decide_eq_true_eq, decide_eq_false_iff_not]
    omega
  · cases hp
theorem ok38 : ContractOk Try.prog 38 c38 := by
  refine contract_of (Γ := knownOf []) known_nil Try.func38 rfl rfl is38 fun ds hk hp => ?_
  split at hp
  · skip
    rename_i n
    obtain ⟨h1, h2⟩ := hp
    have hf := floor_spec (n := n) (d := 65536) (by omega)
    have hb := tdiv_le (n := n) (d := 65536) (by omega) h1 h2
    refine h_need (by simp only [Env.sets, Env.set, BE.den, IE.den, DE.den, DV.int, DV.bool, DV.list, LOp.den, List.map_cons, List.map_nil, Nat.reduceEqDiff, ↓reduceIte, reduceCtorEq, Bool.and_eq_true, Bool.or_eq_true, Bool.not_eq_true', Bool.not_eq_false', Bool.and_eq_false_iff, Bool.or_eq_false_iff, decide_eq_true_eq, decide_eq_false_iff_not]; omega) ?_
    refine h_ite (fun hc => ?_) (fun hc => ?_)
    · simp only [Env.sets, Env.set, BE.den, IE.den, DE.den, DV.int, DV.bool, DV.list, LOp.den, List.map_cons, List.map_nil, Nat.reduceEqDiff, ↓reduceIte, reduceCtorEq, Bool.and_eq_true, Bool.or_eq_true, Bool.not_eq_true', Bool.not_eq_false', Bool.and_eq_false_iff, Bool.or_eq_false_iff, decide_eq_true_eq, decide_eq_false_iff_not] at hc
      have := hf.1 hc
      refine h_need (by simp only [Env.sets, Env.set, BE.den, IE.den, DE.den, DV.int, DV.bool, DV.list, LOp.den, List.map_cons, List.map_nil, Nat.reduceEqDiff, ↓reduceIte, reduceCtorEq, Bool.and_eq_true, Bool.or_eq_true, Bool.not_eq_true', Bool.not_eq_false', Bool.and_eq_false_iff, Bool.or_eq_false_iff, decide_eq_true_eq, decide_eq_false_iff_not]; omega) ?_
      show [DV.i _] = [DV.i (n / 65536)]
      simp only [Env.sets, Env.set, BE.den, IE.den, DE.den, DV.int, DV.bool, DV.list, LOp.den, List.map_cons, List.map_nil, Nat.reduceEqDiff, ↓reduceIte, reduceCtorEq, Bool.and_eq_true, Bool.or_eq_true, Bool.not_eq_true', Bool.not_eq_false', Bool.and_eq_false_iff, Bool.or_eq_false_iff, decide_eq_true_eq, decide_eq_false_iff_not, List.cons.injEq, DV.i.injEq, and_true]
      omega
    · simp only [Env.sets, Env.set, BE.den, IE.den, DE.den, DV.int, DV.bool, DV.list, LOp.den, List.map_cons, List.map_nil, Nat.reduceEqDiff, ↓reduceIte, reduceCtorEq, Bool.and_eq_true, Bool.or_eq_true, Bool.not_eq_true', Bool.not_eq_false', Bool.and_eq_false_iff, Bool.or_eq_false_iff, decide_eq_true_eq, decide_eq_false_iff_not] at hc
      have := hf.2 (by omega)
      show [DV.i _] = [DV.i (n / 65536)]
      simp only [Env.sets, Env.set, BE.den, IE.den, DE.den, DV.int, DV.bool, DV.list, LOp.den, List.map_cons, List.map_nil, Nat.reduceEqDiff, ↓reduceIte, reduceCtorEq, Bool.and_eq_true, Bool.or_eq_true, Bool.not_eq_true', Bool.not_eq_false', Bool.and_eq_false_iff, Bool.or_eq_false_iff, decide_eq_true_eq, decide_eq_false_iff_not, List.cons.injEq, DV.i.injEq, and_true]
      omega
  · cases hp
theorem ok37 : ContractOk Try.prog 37 c37 := by
  refine contract_of (Γ := knownOf []) known_nil Try.func37 rfl rfl is37 fun ds hk hp => ?_
  split at hp
  · skip
    rename_i a0 a1 a2 a3 a4 a5 a6 a7 a8 a9 a10 a11 a12 a13 a14 a15 r c
    obtain ⟨⟨r1, r2⟩, c1, c2⟩ := hp
    iterate 4 refine h_need (by simp only [Env.sets, Env.set, BE.den, IE.den, DE.den, DV.int, DV.bool, DV.list, LOp.den, List.map_cons, List.map_nil, Nat.reduceEqDiff, ↓reduceIte, reduceCtorEq, Bool.and_eq_true, Bool.or_eq_true, Bool.not_eq_true', Bool.not_eq_false', Bool.and_eq_false_iff, Bool.or_eq_false_iff, decide_eq_true_eq, decide_eq_false_iff_not]; omega) ?_
    refine retI ?_
    simp only [Env.sets, Env.set, BE.den, IE.den, DE.den, DV.int, DV.bool, DV.list, LOp.den, List.map_cons, List.map_nil, Nat.reduceEqDiff, ↓reduceIte, reduceCtorEq, Bool.and_eq_true, Bool.or_eq_true, Bool.not_eq_true', Bool.not_eq_false', Bool.and_eq_false_iff, Bool.or_eq_false_iff, decide_eq_true_eq, decide_eq_false_iff_not]
    obtain ⟨k, hk⟩ : ∃ k, 4 * r + c = k := ⟨_, rfl⟩
    have hk1 : 0 ≤ k := by omega
    have hk2 : k ≤ 15 := by omega
    rw [hk]
    obtain ⟨n, rfl⟩ : ∃ n : Nat, k = n := ⟨k.toNat, by omega⟩
    have hn : n ≤ 15 := by omega
    clear hk hk1 hk2
    match n, hn with
    | 0, _ => rfl
    | 1, _ => rfl
    | 2, _ => rfl
    | 3, _ => rfl
    | 4, _ => rfl
    | 5, _ => rfl
    | 6, _ => rfl
    | 7, _ => rfl
    | 8, _ => rfl
    | 9, _ => rfl
    | 10, _ => rfl
    | 11, _ => rfl
    | 12, _ => rfl
    | 13, _ => rfl
    | 14, _ => rfl
    | 15, _ => rfl
  · cases hp
theorem ok40 : ContractOk Try.prog 40 c40 := by
  refine contract_of (Γ := knownOf []) known_nil Try.func40 rfl rfl is40 fun ds hk hp => ?_
  split at hp
  · skip
    rename_i mm i vv
    obtain ⟨hm, hv, ⟨i1, i2⟩, hM, hV⟩ := hp
    have gM : ∀ k : Int, 0 ≤ k → k < 16 → inB (cellAt mm k 0) := fun k h1 h2 => hM _ (by
      have hlt : k.toNat < mm.length := by omega
      have e : mm.getD k.toNat [] = mm[k.toNat] := by simp [List.getD, List.getElem?_eq_getElem hlt]
      rw [e]; exact List.getElem_mem hlt)
    have gV : ∀ k : Int, 0 ≤ k → k < 4 → inB (cellAt vv k 0) := fun k h1 h2 => hV _ (by
      have hlt : k.toNat < vv.length := by omega
      have e : vv.getD k.toNat [] = vv[k.toNat] := by simp [List.getD, List.getElem?_eq_getElem hlt]
      rw [e]; exact List.getElem_mem hlt)
    have p0 := gM (4 * i) (by omega) (by omega)
    have p1 := gM (4 * i + 1) (by omega) (by omega)
    have p2 := gM (4 * i + 2) (by omega) (by omega)
    have p3 := gM (4 * i + 3) (by omega) (by omega)
    have q0 := gV 0 (by omega) (by omega)
    have q1 := gV 1 (by omega) (by omega)
    have q2 := gV 2 (by omega) (by omega)
    have q3 := gV 3 (by omega) (by omega)
    iterate 6 refine h_need (by simp only [Env.sets, Env.set, BE.den, IE.den, DE.den, DV.int, DV.bool, DV.list, LOp.den, List.map_cons, List.map_nil, Nat.reduceEqDiff, ↓reduceIte, reduceCtorEq, Bool.and_eq_true, Bool.or_eq_true, Bool.not_eq_true', Bool.not_eq_false', Bool.and_eq_false_iff, Bool.or_eq_false_iff, decide_eq_true_eq, decide_eq_false_iff_not]; omega) ?_
    refine h_needR (cellAt mm (4*i) 0 * cellAt vv 0 0) rfl (nd1 p0 q0) ?_
    iterate 5 refine h_need (by simp only [Env.sets, Env.set, BE.den, IE.den, DE.den, DV.int, DV.bool, DV.list, LOp.den, List.map_cons, List.map_nil, Nat.reduceEqDiff, ↓reduceIte, reduceCtorEq, Bool.and_eq_true, Bool.or_eq_true, Bool.not_eq_true', Bool.not_eq_false', Bool.and_eq_false_iff, Bool.or_eq_false_iff, decide_eq_true_eq, decide_eq_false_iff_not]; omega) ?_
    refine h_needR (cellAt mm (4*i+1) 0 * cellAt vv 1 0) rfl (nd1 p1 q1) ?_
    refine h_needR (cellAt mm (4*i) 0 * cellAt vv 0 0 + cellAt mm (4*i+1) 0 * cellAt vv 1 0) rfl (nd2 p0 q0 p1 q1) ?_
    iterate 5 refine h_need (by simp only [Env.sets, Env.set, BE.den, IE.den, DE.den, DV.int, DV.bool, DV.list, LOp.den, List.map_cons, List.map_nil, Nat.reduceEqDiff, ↓reduceIte, reduceCtorEq, Bool.and_eq_true, Bool.or_eq_true, Bool.not_eq_true', Bool.not_eq_false', Bool.and_eq_false_iff, Bool.or_eq_false_iff, decide_eq_true_eq, decide_eq_false_iff_not]; omega) ?_
    refine h_needR (cellAt mm (4*i+2) 0 * cellAt vv 2 0) rfl (nd1 p2 q2) ?_
    refine h_needR (cellAt mm (4*i) 0 * cellAt vv 0 0 + cellAt mm (4*i+1) 0 * cellAt vv 1 0 + cellAt mm (4*i+2) 0 * cellAt vv 2 0) rfl (nd3 p0 q0 p1 q1 p2 q2) ?_
    iterate 5 refine h_need (by simp only [Env.sets, Env.set, BE.den, IE.den, DE.den, DV.int, DV.bool, DV.list, LOp.den, List.map_cons, List.map_nil, Nat.reduceEqDiff, ↓reduceIte, reduceCtorEq, Bool.and_eq_true, Bool.or_eq_true, Bool.not_eq_true', Bool.not_eq_false', Bool.and_eq_false_iff, Bool.or_eq_false_iff, decide_eq_true_eq, decide_eq_false_iff_not]; omega) ?_
    refine h_needR (cellAt mm (4*i+3) 0 * cellAt vv 3 0) rfl (nd1 p3 q3) ?_
    refine h_needR (cellAt mm (4*i) 0 * cellAt vv 0 0 + cellAt mm (4*i+1) 0 * cellAt vv 1 0 + cellAt mm (4*i+2) 0 * cellAt vv 2 0 + cellAt mm (4*i+3) 0 * cellAt vv 3 0) rfl (nd4 p0 q0 p1 q1 p2 q2 p3 q3) ?_
    rfl
  · cases hp
theorem ok31 : ContractOk Try.prog 31 (cRight sg31) := by
  refine contract_of (Γ := knownOf [(39, c39)]) (known_cons ok39 rfl known_nil) Try.func31 rfl rfl is31 fun ds hk hp => ?_
  split at hp
  · skip
    rename_i a0 a1 a2 a3 a4 a5 a6 a7 a8 a9 a10 a11 a12 a13 a14 a15
    refine h_call (c := c39) rfl (show bigP 268435456 by unfold bigP; omega) fun rs hk hr => ?_
    have hr : rs = [.b (decide (268435456 < a0 ∨ a0 < -268435456))] := hr
    subst hr
    refine h_ite (fun g => retN (P := rightP [a0, a1, a2, a3, a4, a5, a6, a7, a8, a9, a10, a11, a12, a13, a14, a15]) fun h => ?_) (fun g => ?_)
    · have g := of_decide_eq_true (p := 268435456 < a0 ∨ a0 < -268435456) g
      have := h a0 (by simp)
      unfold inB at this
      omega
    have h0 := of_decide_eq_false (p := 268435456 < a0 ∨ a0 < -268435456) g
    clear g
    refine h_call (c := c39) rfl (show bigP 268435456 by unfold bigP; omega) fun rs hk hr => ?_
    have hr : rs = [.b (decide (268435456 < a1 ∨ a1 < -268435456))] := hr
    subst hr
    refine h_ite (fun g => retN (P := rightP [a0, a1, a2, a3, a4, a5, a6, a7, a8, a9, a10, a11, a12, a13, a14, a15]) fun h => ?_) (fun g => ?_)
    · have g := of_decide_eq_true (p := 268435456 < a1 ∨ a1 < -268435456) g
      have := h a1 (by simp)
      unfold inB at this
      omega
    have h1 := of_decide_eq_false (p := 268435456 < a1 ∨ a1 < -268435456) g
    clear g
    refine h_call (c := c39) rfl (show bigP 268435456 by unfold bigP; omega) fun rs hk hr => ?_
    have hr : rs = [.b (decide (268435456 < a2 ∨ a2 < -268435456))] := hr
    subst hr
    refine h_ite (fun g => retN (P := rightP [a0, a1, a2, a3, a4, a5, a6, a7, a8, a9, a10, a11, a12, a13, a14, a15]) fun h => ?_) (fun g => ?_)
    · have g := of_decide_eq_true (p := 268435456 < a2 ∨ a2 < -268435456) g
      have := h a2 (by simp)
      unfold inB at this
      omega
    have h2 := of_decide_eq_false (p := 268435456 < a2 ∨ a2 < -268435456) g
    clear g
    refine h_call (c := c39) rfl (show bigP 268435456 by unfold bigP; omega) fun rs hk hr => ?_
    have hr : rs = [.b (decide (268435456 < a3 ∨ a3 < -268435456))] := hr
    subst hr
    refine h_ite (fun g => retN (P := rightP [a0, a1, a2, a3, a4, a5, a6, a7, a8, a9, a10, a11, a12, a13, a14, a15]) fun h => ?_) (fun g => ?_)
    · have g := of_decide_eq_true (p := 268435456 < a3 ∨ a3 < -268435456) g
      have := h a3 (by simp)
      unfold inB at this
      omega
    have h3 := of_decide_eq_false (p := 268435456 < a3 ∨ a3 < -268435456) g
    clear g
    refine h_call (c := c39) rfl (show bigP 268435456 by unfold bigP; omega) fun rs hk hr => ?_
    have hr : rs = [.b (decide (268435456 < a4 ∨ a4 < -268435456))] := hr
    subst hr
    refine h_ite (fun g => retN (P := rightP [a0, a1, a2, a3, a4, a5, a6, a7, a8, a9, a10, a11, a12, a13, a14, a15]) fun h => ?_) (fun g => ?_)
    · have g := of_decide_eq_true (p := 268435456 < a4 ∨ a4 < -268435456) g
      have := h a4 (by simp)
      unfold inB at this
      omega
    have h4 := of_decide_eq_false (p := 268435456 < a4 ∨ a4 < -268435456) g
    clear g
    refine h_call (c := c39) rfl (show bigP 268435456 by unfold bigP; omega) fun rs hk hr => ?_
    have hr : rs = [.b (decide (268435456 < a5 ∨ a5 < -268435456))] := hr
    subst hr
    refine h_ite (fun g => retN (P := rightP [a0, a1, a2, a3, a4, a5, a6, a7, a8, a9, a10, a11, a12, a13, a14, a15]) fun h => ?_) (fun g => ?_)
    · have g := of_decide_eq_true (p := 268435456 < a5 ∨ a5 < -268435456) g
      have := h a5 (by simp)
      unfold inB at this
      omega
    have h5 := of_decide_eq_false (p := 268435456 < a5 ∨ a5 < -268435456) g
    clear g
    refine h_call (c := c39) rfl (show bigP 268435456 by unfold bigP; omega) fun rs hk hr => ?_
    have hr : rs = [.b (decide (268435456 < a6 ∨ a6 < -268435456))] := hr
    subst hr
    refine h_ite (fun g => retN (P := rightP [a0, a1, a2, a3, a4, a5, a6, a7, a8, a9, a10, a11, a12, a13, a14, a15]) fun h => ?_) (fun g => ?_)
    · have g := of_decide_eq_true (p := 268435456 < a6 ∨ a6 < -268435456) g
      have := h a6 (by simp)
      unfold inB at this
      omega
    have h6 := of_decide_eq_false (p := 268435456 < a6 ∨ a6 < -268435456) g
    clear g
    refine h_call (c := c39) rfl (show bigP 268435456 by unfold bigP; omega) fun rs hk hr => ?_
    have hr : rs = [.b (decide (268435456 < a7 ∨ a7 < -268435456))] := hr
    subst hr
    refine h_ite (fun g => retN (P := rightP [a0, a1, a2, a3, a4, a5, a6, a7, a8, a9, a10, a11, a12, a13, a14, a15]) fun h => ?_) (fun g => ?_)
    · have g := of_decide_eq_true (p := 268435456 < a7 ∨ a7 < -268435456) g
      have := h a7 (by simp)
      unfold inB at this
      omega
    have h7 := of_decide_eq_false (p := 268435456 < a7 ∨ a7 < -268435456) g
    clear g
    refine h_call (c := c39) rfl (show bigP 268435456 by unfold bigP; omega) fun rs hk hr => ?_
    have hr : rs = [.b (decide (268435456 < a8 ∨ a8 < -268435456))] := hr
    subst hr
    refine h_ite (fun g => retN (P := rightP [a0, a1, a2, a3, a4, a5, a6, a7, a8, a9, a10, a11, a12, a13, a14, a15]) fun h => ?_) (fun g => ?_)
    · have g := of_decide_eq_true (p := 268435456 < a8 ∨ a8 < -268435456) g
      have := h a8 (by simp)
      unfold inB at this
      omega
    have h8 := of_decide_eq_false (p := 268435456 < a8 ∨ a8 < -268435456) g
    clear g
    refine h_call (c := c39) rfl (show bigP 268435456 by unfold bigP; omega) fun rs hk hr => ?_
    have hr : rs = [.b (decide (268435456 < a9 ∨ a9 < -268435456))] := hr
    subst hr
    refine h_ite (fun g => retN (P := rightP [a0, a1, a2, a3, a4, a5, a6, a7, a8, a9, a10, a11, a12, a13, a14, a15]) fun h => ?_) (fun g => ?_)
    · have g := of_decide_eq_true (p := 268435456 < a9 ∨ a9 < -268435456) g
      have := h a9 (by simp)
      unfold inB at this
      omega
    have h9 := of_decide_eq_false (p := 268435456 < a9 ∨ a9 < -268435456) g
    clear g
    refine h_call (c := c39) rfl (show bigP 268435456 by unfold bigP; omega) fun rs hk hr => ?_
    have hr : rs = [.b (decide (268435456 < a10 ∨ a10 < -268435456))] := hr
    subst hr
    refine h_ite (fun g => retN (P := rightP [a0, a1, a2, a3, a4, a5, a6, a7, a8, a9, a10, a11, a12, a13, a14, a15]) fun h => ?_) (fun g => ?_)
    · have g := of_decide_eq_true (p := 268435456 < a10 ∨ a10 < -268435456) g
      have := h a10 (by simp)
      unfold inB at this
      omega
    have h10 := of_decide_eq_false (p := 268435456 < a10 ∨ a10 < -268435456) g
    clear g
    refine h_call (c := c39) rfl (show bigP 268435456 by unfold bigP; omega) fun rs hk hr => ?_
    have hr : rs = [.b (decide (268435456 < a11 ∨ a11 < -268435456))] := hr
    subst hr
    refine h_ite (fun g => retN (P := rightP [a0, a1, a2, a3, a4, a5, a6, a7, a8, a9, a10, a11, a12, a13, a14, a15]) fun h => ?_) (fun g => ?_)
    · have g := of_decide_eq_true (p := 268435456 < a11 ∨ a11 < -268435456) g
      have := h a11 (by simp)
      unfold inB at this
      omega
    have h11 := of_decide_eq_false (p := 268435456 < a11 ∨ a11 < -268435456) g
    clear g
    refine h_call (c := c39) rfl (show bigP 268435456 by unfold bigP; omega) fun rs hk hr => ?_
    have hr : rs = [.b (decide (268435456 < a12 ∨ a12 < -268435456))] := hr
    subst hr
    refine h_ite (fun g => retN (P := rightP [a0, a1, a2, a3, a4, a5, a6, a7, a8, a9, a10, a11, a12, a13, a14, a15]) fun h => ?_) (fun g => ?_)
    · have g := of_decide_eq_true (p := 268435456 < a12 ∨ a12 < -268435456) g
      have := h a12 (by simp)
      unfold inB at this
      omega
    have h12 := of_decide_eq_false (p := 268435456 < a12 ∨ a12 < -268435456) g
    clear g
    refine h_call (c := c39) rfl (show bigP 268435456 by unfold bigP; omega) fun rs hk hr => ?_
    have hr : rs = [.b (decide (268435456 < a13 ∨ a13 < -268435456))] := hr
    subst hr
    refine h_ite (fun g => retN (P := rightP [a0, a1, a2, a3, a4, a5, a6, a7, a8, a9, a10, a11, a12, a13, a14, a15]) fun h => ?_) (fun g => ?_)
    · have g := of_decide_eq_true (p := 268435456 < a13 ∨ a13 < -268435456) g
      have := h a13 (by simp)
      unfold inB at this
      omega
    have h13 := of_decide_eq_false (p := 268435456 < a13 ∨ a13 < -268435456) g
    clear g
    refine h_call (c := c39) rfl (show bigP 268435456 by unfold bigP; omega) fun rs hk hr => ?_
    have hr : rs = [.b (decide (268435456 < a14 ∨ a14 < -268435456))] := hr
    subst hr
    refine h_ite (fun g => retN (P := rightP [a0, a1, a2, a3, a4, a5, a6, a7, a8, a9, a10, a11, a12, a13, a14, a15]) fun h => ?_) (fun g => ?_)
    · have g := of_decide_eq_true (p := 268435456 < a14 ∨ a14 < -268435456) g
      have := h a14 (by simp)
      unfold inB at this
      omega
    have h14 := of_decide_eq_false (p := 268435456 < a14 ∨ a14 < -268435456) g
    clear g
    refine h_call (c := c39) rfl (show bigP 268435456 by unfold bigP; omega) fun rs hk hr => ?_
    have hr : rs = [.b (decide (268435456 < a15 ∨ a15 < -268435456))] := hr
    subst hr
    refine h_ite (fun g => retN (P := rightP [a0, a1, a2, a3, a4, a5, a6, a7, a8, a9, a10, a11, a12, a13, a14, a15]) fun h => ?_) (fun g => ?_)
    · have g := of_decide_eq_true (p := 268435456 < a15 ∨ a15 < -268435456) g
      have := h a15 (by simp)
      unfold inB at this
      omega
    have h15 := of_decide_eq_false (p := 268435456 < a15 ∨ a15 < -268435456) g
    clear g
    refine retT (P := rightP [a0, a1, a2, a3, a4, a5, a6, a7, a8, a9, a10, a11, a12, a13, a14, a15]) ?_
    intro x hx
    simp only [List.mem_cons, List.not_mem_nil, or_false] at hx
    rcases hx with rfl | rfl | rfl | rfl | rfl | rfl | rfl | rfl | rfl | rfl | rfl | rfl | rfl | rfl | rfl | rfl <;> unfold inB <;> omega
  · cases hp
theorem ok28 : ContractOk Try.prog 28 (cRight sg28) := by
  refine contract_of (Γ := knownOf [(36, c36)]) (known_cons ok36 rfl known_nil) Try.func28 rfl rfl is28 fun ds hk hp => ?_
  split at hp
  · skip
    rename_i a0 a1 a2 a3 a4 a5 a6 a7 a8 a9 a10 a11 a12 a13 a14 a15
    refine h_call (c := c36) rfl (show bigP 268435456 by unfold bigP; omega) fun rs hk hr => ?_
    have hr : rs = [.b (decide (-268435456 ≤ a0 ∧ a0 ≤ 268435456))] := hr
    subst hr
    refine h_ite (fun g => retN (P := rightP [a0, a1, a2, a3, a4, a5, a6, a7, a8, a9, a10, a11, a12, a13, a14, a15]) fun h => ?_) (fun g => ?_)
    · have g : (!decide (-268435456 ≤ a0 ∧ a0 ≤ 268435456)) = true := g
      rw [Bool.not_eq_true', decide_eq_false_iff_not] at g
      exact g (h a0 (by simp))
    have g : (!decide (-268435456 ≤ a0 ∧ a0 ≤ 268435456)) = false := g
    rw [Bool.not_eq_false', decide_eq_true_eq] at g
    have h0 := g
    clear g
    refine h_call (c := c36) rfl (show bigP 268435456 by unfold bigP; omega) fun rs hk hr => ?_
    have hr : rs = [.b (decide (-268435456 ≤ a1 ∧ a1 ≤ 268435456))] := hr
    subst hr
    refine h_ite (fun g => retN (P := rightP [a0, a1, a2, a3, a4, a5, a6, a7, a8, a9, a10, a11, a12, a13, a14, a15]) fun h => ?_) (fun g => ?_)
    · have g : (!decide (-268435456 ≤ a1 ∧ a1 ≤ 268435456)) = true := g
      rw [Bool.not_eq_true', decide_eq_false_iff_not] at g
      exact g (h a1 (by simp))
    have g : (!decide (-268435456 ≤ a1 ∧ a1 ≤ 268435456)) = false := g
    rw [Bool.not_eq_false', decide_eq_true_eq] at g
    have h1 := g
    clear g
    refine h_call (c := c36) rfl (show bigP 268435456 by unfold bigP; omega) fun rs hk hr => ?_
    have hr : rs = [.b (decide (-268435456 ≤ a2 ∧ a2 ≤ 268435456))] := hr
    subst hr
    refine h_ite (fun g => retN (P := rightP [a0, a1, a2, a3, a4, a5, a6, a7, a8, a9, a10, a11, a12, a13, a14, a15]) fun h => ?_) (fun g => ?_)
    · have g : (!decide (-268435456 ≤ a2 ∧ a2 ≤ 268435456)) = true := g
      rw [Bool.not_eq_true', decide_eq_false_iff_not] at g
      exact g (h a2 (by simp))
    have g : (!decide (-268435456 ≤ a2 ∧ a2 ≤ 268435456)) = false := g
    rw [Bool.not_eq_false', decide_eq_true_eq] at g
    have h2 := g
    clear g
    refine h_call (c := c36) rfl (show bigP 268435456 by unfold bigP; omega) fun rs hk hr => ?_
    have hr : rs = [.b (decide (-268435456 ≤ a3 ∧ a3 ≤ 268435456))] := hr
    subst hr
    refine h_ite (fun g => retN (P := rightP [a0, a1, a2, a3, a4, a5, a6, a7, a8, a9, a10, a11, a12, a13, a14, a15]) fun h => ?_) (fun g => ?_)
    · have g : (!decide (-268435456 ≤ a3 ∧ a3 ≤ 268435456)) = true := g
      rw [Bool.not_eq_true', decide_eq_false_iff_not] at g
      exact g (h a3 (by simp))
    have g : (!decide (-268435456 ≤ a3 ∧ a3 ≤ 268435456)) = false := g
    rw [Bool.not_eq_false', decide_eq_true_eq] at g
    have h3 := g
    clear g
    refine h_call (c := c36) rfl (show bigP 268435456 by unfold bigP; omega) fun rs hk hr => ?_
    have hr : rs = [.b (decide (-268435456 ≤ a4 ∧ a4 ≤ 268435456))] := hr
    subst hr
    refine h_ite (fun g => retN (P := rightP [a0, a1, a2, a3, a4, a5, a6, a7, a8, a9, a10, a11, a12, a13, a14, a15]) fun h => ?_) (fun g => ?_)
    · have g : (!decide (-268435456 ≤ a4 ∧ a4 ≤ 268435456)) = true := g
      rw [Bool.not_eq_true', decide_eq_false_iff_not] at g
      exact g (h a4 (by simp))
    have g : (!decide (-268435456 ≤ a4 ∧ a4 ≤ 268435456)) = false := g
    rw [Bool.not_eq_false', decide_eq_true_eq] at g
    have h4 := g
    clear g
    refine h_call (c := c36) rfl (show bigP 268435456 by unfold bigP; omega) fun rs hk hr => ?_
    have hr : rs = [.b (decide (-268435456 ≤ a5 ∧ a5 ≤ 268435456))] := hr
    subst hr
    refine h_ite (fun g => retN (P := rightP [a0, a1, a2, a3, a4, a5, a6, a7, a8, a9, a10, a11, a12, a13, a14, a15]) fun h => ?_) (fun g => ?_)
    · have g : (!decide (-268435456 ≤ a5 ∧ a5 ≤ 268435456)) = true := g
      rw [Bool.not_eq_true', decide_eq_false_iff_not] at g
      exact g (h a5 (by simp))
    have g : (!decide (-268435456 ≤ a5 ∧ a5 ≤ 268435456)) = false := g
    rw [Bool.not_eq_false', decide_eq_true_eq] at g
    have h5 := g
    clear g
    refine h_call (c := c36) rfl (show bigP 268435456 by unfold bigP; omega) fun rs hk hr => ?_
    have hr : rs = [.b (decide (-268435456 ≤ a6 ∧ a6 ≤ 268435456))] := hr
    subst hr
    refine h_ite (fun g => retN (P := rightP [a0, a1, a2, a3, a4, a5, a6, a7, a8, a9, a10, a11, a12, a13, a14, a15]) fun h => ?_) (fun g => ?_)
    · have g : (!decide (-268435456 ≤ a6 ∧ a6 ≤ 268435456)) = true := g
      rw [Bool.not_eq_true', decide_eq_false_iff_not] at g
      exact g (h a6 (by simp))
    have g : (!decide (-268435456 ≤ a6 ∧ a6 ≤ 268435456)) = false := g
    rw [Bool.not_eq_false', decide_eq_true_eq] at g
    have h6 := g
    clear g
    refine h_call (c := c36) rfl (show bigP 268435456 by unfold bigP; omega) fun rs hk hr => ?_
    have hr : rs = [.b (decide (-268435456 ≤ a7 ∧ a7 ≤ 268435456))] := hr
    subst hr
    refine h_ite (fun g => retN (P := rightP [a0, a1, a2, a3, a4, a5, a6, a7, a8, a9, a10, a11, a12, a13, a14, a15]) fun h => ?_) (fun g => ?_)
    · have g : (!decide (-268435456 ≤ a7 ∧ a7 ≤ 268435456)) = true := g
      rw [Bool.not_eq_true', decide_eq_false_iff_not] at g
      exact g (h a7 (by simp))
    have g : (!decide (-268435456 ≤ a7 ∧ a7 ≤ 268435456)) = false := g
    rw [Bool.not_eq_false', decide_eq_true_eq] at g
    have h7 := g
    clear g
    refine h_call (c := c36) rfl (show bigP 268435456 by unfold bigP; omega) fun rs hk hr => ?_
    have hr : rs = [.b (decide (-268435456 ≤ a8 ∧ a8 ≤ 268435456))] := hr
    subst hr
    refine h_ite (fun g => retN (P := rightP [a0, a1, a2, a3, a4, a5, a6, a7, a8, a9, a10, a11, a12, a13, a14, a15]) fun h => ?_) (fun g => ?_)
    · have g : (!decide (-268435456 ≤ a8 ∧ a8 ≤ 268435456)) = true := g
      rw [Bool.not_eq_true', decide_eq_false_iff_not] at g
      exact g (h a8 (by simp))
    have g : (!decide (-268435456 ≤ a8 ∧ a8 ≤ 268435456)) = false := g
    rw [Bool.not_eq_false', decide_eq_true_eq] at g
    have h8 := g
    clear g
    refine h_call (c := c36) rfl (show bigP 268435456 by unfold bigP; omega) fun rs hk hr => ?_
    have hr : rs = [.b (decide (-268435456 ≤ a9 ∧ a9 ≤ 268435456))] := hr
    subst hr
    refine h_ite (fun g => retN (P := rightP [a0, a1, a2, a3, a4, a5, a6, a7, a8, a9, a10, a11, a12, a13, a14, a15]) fun h => ?_) (fun g => ?_)
    · have g : (!decide (-268435456 ≤ a9 ∧ a9 ≤ 268435456)) = true := g
      rw [Bool.not_eq_true', decide_eq_false_iff_not] at g
      exact g (h a9 (by simp))
    have g : (!decide (-268435456 ≤ a9 ∧ a9 ≤ 268435456)) = false := g
    rw [Bool.not_eq_false', decide_eq_true_eq] at g
    have h9 := g
    clear g
    refine h_call (c := c36) rfl (show bigP 268435456 by unfold bigP; omega) fun rs hk hr => ?_
    have hr : rs = [.b (decide (-268435456 ≤ a10 ∧ a10 ≤ 268435456))] := hr
    subst hr
    refine h_ite (fun g => retN (P := rightP [a0, a1, a2, a3, a4, a5, a6, a7, a8, a9, a10, a11, a12, a13, a14, a15]) fun h => ?_) (fun g => ?_)
    · have g : (!decide (-268435456 ≤ a10 ∧ a10 ≤ 268435456)) = true := g
      rw [Bool.not_eq_true', decide_eq_false_iff_not] at g
      exact g (h a10 (by simp))
    have g : (!decide (-268435456 ≤ a10 ∧ a10 ≤ 268435456)) = false := g
    rw [Bool.not_eq_false', decide_eq_true_eq] at g
    have h10 := g
    clear g
    refine h_call (c := c36) rfl (show bigP 268435456 by unfold bigP; omega) fun rs hk hr => ?_
    have hr : rs = [.b (decide (-268435456 ≤ a11 ∧ a11 ≤ 268435456))] := hr
    subst hr
    refine h_ite (fun g => retN (P := rightP [a0, a1, a2, a3, a4, a5, a6, a7, a8, a9, a10, a11, a12, a13, a14, a15]) fun h => ?_) (fun g => ?_)
    · have g : (!decide (-268435456 ≤ a11 ∧ a11 ≤ 268435456)) = true := g
      rw [Bool.not_eq_true', decide_eq_false_iff_not] at g
      exact g (h a11 (by simp))
    have g : (!decide (-268435456 ≤ a11 ∧ a11 ≤ 268435456)) = false := g
    rw [Bool.not_eq_false', decide_eq_true_eq] at g
    have h11 := g
    clear g
    refine h_call (c := c36) rfl (show bigP 268435456 by unfold bigP; omega) fun rs hk hr => ?_
    have hr : rs = [.b (decide (-268435456 ≤ a12 ∧ a12 ≤ 268435456))] := hr
    subst hr
    refine h_ite (fun g => retN (P := rightP [a0, a1, a2, a3, a4, a5, a6, a7, a8, a9, a10, a11, a12, a13, a14, a15]) fun h => ?_) (fun g => ?_)
    · have g : (!decide (-268435456 ≤ a12 ∧ a12 ≤ 268435456)) = true := g
      rw [Bool.not_eq_true', decide_eq_false_iff_not] at g
      exact g (h a12 (by simp))
    have g : (!decide (-268435456 ≤ a12 ∧ a12 ≤ 268435456)) = false := g
    rw [Bool.not_eq_false', decide_eq_true_eq] at g
    have h12 := g
    clear g
    refine h_call (c := c36) rfl (show bigP 268435456 by unfold bigP; omega) fun rs hk hr => ?_
    have hr : rs = [.b (decide (-268435456 ≤ a13 ∧ a13 ≤ 268435456))] := hr
    subst hr
    refine h_ite (fun g => retN (P := rightP [a0, a1, a2, a3, a4, a5, a6, a7, a8, a9, a10, a11, a12, a13, a14, a15]) fun h => ?_) (fun g => ?_)
    · have g : (!decide (-268435456 ≤ a13 ∧ a13 ≤ 268435456)) = true := g
      rw [Bool.not_eq_true', decide_eq_false_iff_not] at g
      exact g (h a13 (by simp))
    have g : (!decide (-268435456 ≤ a13 ∧ a13 ≤ 268435456)) = false := g
    rw [Bool.not_eq_false', decide_eq_true_eq] at g
    have h13 := g
    clear g
    refine h_call (c := c36) rfl (show bigP 268435456 by unfold bigP; omega) fun rs hk hr => ?_
    have hr : rs = [.b (decide (-268435456 ≤ a14 ∧ a14 ≤ 268435456))] := hr
    subst hr
    refine h_ite (fun g => retN (P := rightP [a0, a1, a2, a3, a4, a5, a6, a7, a8, a9, a10, a11, a12, a13, a14, a15]) fun h => ?_) (fun g => ?_)
    · have g : (!decide (-268435456 ≤ a14 ∧ a14 ≤ 268435456)) = true := g
      rw [Bool.not_eq_true', decide_eq_false_iff_not] at g
      exact g (h a14 (by simp))
    have g : (!decide (-268435456 ≤ a14 ∧ a14 ≤ 268435456)) = false := g
    rw [Bool.not_eq_false', decide_eq_true_eq] at g
    have h14 := g
    clear g
    refine h_call (c := c36) rfl (show bigP 268435456 by unfold bigP; omega) fun rs hk hr => ?_
    have hr : rs = [.b (decide (-268435456 ≤ a15 ∧ a15 ≤ 268435456))] := hr
    subst hr
    refine h_ite (fun g => retN (P := rightP [a0, a1, a2, a3, a4, a5, a6, a7, a8, a9, a10, a11, a12, a13, a14, a15]) fun h => ?_) (fun g => ?_)
    · have g : (!decide (-268435456 ≤ a15 ∧ a15 ≤ 268435456)) = true := g
      rw [Bool.not_eq_true', decide_eq_false_iff_not] at g
      exact g (h a15 (by simp))
    have g : (!decide (-268435456 ≤ a15 ∧ a15 ≤ 268435456)) = false := g
    rw [Bool.not_eq_false', decide_eq_true_eq] at g
    have h15 := g
    clear g
    refine retT (P := rightP [a0, a1, a2, a3, a4, a5, a6, a7, a8, a9, a10, a11, a12, a13, a14, a15]) ?_
    intro x hx
    simp only [List.mem_cons, List.not_mem_nil, or_false] at hx
    rcases hx with rfl | rfl | rfl | rfl | rfl | rfl | rfl | rfl | rfl | rfl | rfl | rfl | rfl | rfl | rfl | rfl <;> unfold inB <;> omega
  · cases hp
theorem ok34 : ContractOk Try.prog 34 (cUnit sg34) := by
  refine contract_of (Γ := knownOf []) known_nil Try.func34 rfl rfl is34 fun ds hk hp => ?_
  split at hp
  · skip
    rfl
  · cases hp
theorem ok35 : ContractOk Try.prog 35 (cUnit sg35) := by
  refine contract_of (Γ := knownOf []) known_nil Try.func35 rfl rfl is35 fun ds hk hp => ?_
  split at hp
  · skip
    rfl
  · cases hp
theorem rows_ok {l : List Int} (h : rightP l) : ∀ r ∈ l.map (fun x => [x]), inB (r.getD 0 0) := by
  intro r hr
  obtain ⟨x, hx, rfl⟩ := List.mem_map.1 hr
  exact h x hx
theorem mul_bad {A B : List Int} (h : ¬ (rightP A ∧ rightP B)) : (∀ j, mulI A B j = 0) ∧ mulE A B = 1 := by
  constructor
  · intro j; unfold mulI; rw [if_neg (fun g => h ⟨g.1, g.2.1⟩)]
  · unfold mulE; rw [if_neg h]
theorem mul_far {A B : List Int} (hA : rightP A) (hB : rightP B) (h : ¬ rightP (prodL A B)) : (∀ j, mulI A B j = 0) ∧ mulE A B = 4 := by
  constructor
  · intro j; unfold mulI; rw [if_neg (fun g => h g.2.2)]
  · unfold mulE; rw [if_pos ⟨hA, hB⟩, if_neg h]
theorem mul_ok {A B : List Int} (hA : rightP A) (hB : rightP B) (h : rightP (prodL A B)) : (∀ j, mulI A B j = (prodL A B).getD j 0) ∧ mulE A B = 0 := by
  constructor
  · intro j; unfold mulI; rw [if_pos ⟨hA, hB, h⟩]
  · unfold mulE; rw [if_pos ⟨hA, hB⟩, if_pos h]
theorem app_bad {M v : List Int} {n : Int} (h : ¬ appOk M v n) : (∀ j, appI M v n j = 0) ∧ appE M v n = 1 := by
  constructor
  · intro j; unfold appI; rw [if_neg (fun g => h g.1)]
  · unfold appE; rw [if_neg h]
theorem app_far {M v : List Int} {n : Int} (h1 : appOk M v n) (h : ¬ near n (appL M v)) : (∀ j, appI M v n j = 0) ∧ appE M v n = 4 := by
  constructor
  · intro j; unfold appI; rw [if_neg (fun g => h g.2)]
  · unfold appE; rw [if_pos h1, if_neg h]
theorem app_ok {M v : List Int} {n : Int} (h1 : appOk M v n) (h : near n (appL M v)) : (∀ j, appI M v n j = (appL M v).getD j 0) ∧ appE M v n = 0 := by
  constructor
  · intro j; unfold appI; rw [if_pos ⟨h1, h⟩]
  · unfold appE; rw [if_pos h1, if_pos h]
theorem ok32 : ContractOk Try.prog 32 (cMul sg32) := by
  refine contract_of (Γ := knownOf [(31, cRight sg31), (40, c40)]) (known_cons ok31 rfl (known_cons ok40 rfl known_nil)) Try.func32 rfl rfl is32 fun ds hk hp => ?_
  split at hp
  · skip
    rename_i a0 a1 a2 a3 a4 a5 a6 a7 a8 a9 a10 a11 a12 a13 a14 a15 b0 b1 b2 b3 b4 b5 b6 b7 b8 b9 b10 b11 b12 b13 b14 b15
    refine h_call (c := cRight sg31) rfl trivial fun rs hk hr => ?_
    have hr : rs = [.b (decide (rightP [a0, a1, a2, a3, a4, a5, a6, a7, a8, a9, a10, a11, a12, a13, a14, a15]))] := hr
    subst hr
    refine h_callg (c := cRight sg31) rfl (fun _ => trivial) fun rs hk hr2 => ?_
    obtain ⟨i2, rfl⟩ := kinds1b hk
    have hr2 : decide (rightP [a0, a1, a2, a3, a4, a5, a6, a7, a8, a9, a10, a11, a12, a13, a14, a15]) = true → [DV.b i2] = [DV.b (decide (rightP [b0, b1, b2, b3, b4, b5, b6, b7, b8, b9, b10, b11, b12, b13, b14, b15]))] := hr2
    refine h_ite (fun g => ?_) (fun g => ?_)
    · have g : (!decide (rightP [a0, a1, a2, a3, a4, a5, a6, a7, a8, a9, a10, a11, a12, a13, a14, a15]) || !i2) = true := g
      have hbad : ¬ (rightP [a0, a1, a2, a3, a4, a5, a6, a7, a8, a9, a10, a11, a12, a13, a14, a15] ∧ rightP [b0, b1, b2, b3, b4, b5, b6, b7, b8, b9, b10, b11, b12, b13, b14, b15]) := fun ⟨h1, h2⟩ => by
        rw [b_of (hr2 (by simpa using h1))] at g
        simp [h1, h2] at g
      show ([.i 0, .i 0, .i 0, .i 0, .i 0, .i 0, .i 0, .i 0, .i 0, .i 0, .i 0, .i 0, .i 0, .i 0, .i 0, .i 0, .i 1] : List DV) = [.i (mulI [a0, a1, a2, a3, a4, a5, a6, a7, a8, a9, a10, a11, a12, a13, a14, a15] [b0, b1, b2, b3, b4, b5, b6, b7, b8, b9, b10, b11, b12, b13, b14, b15] 0), .i (mulI [a0, a1, a2, a3, a4, a5, a6, a7, a8, a9, a10, a11, a12, a13, a14, a15] [b0, b1, b2, b3, b4, b5, b6, b7, b8, b9, b10, b11, b12, b13, b14, b15] 1), .i (mulI [a0, a1, a2, a3, a4, a5, a6, a7, a8, a9, a10, a11, a12, a13, a14, a15] [b0, b1, b2, b3, b4, b5, b6, b7, b8, b9, b10, b11, b12, b13, b14, b15] 2), .i (mulI [a0, a1, a2, a3, a4, a5, a6, a7, a8, a9, a10, a11, a12, a13, a14, a15] [b0, b1, b2, b3, b4, b5, b6, b7, b8, b9, b10, b11, b12, b13, b14, b15] 3), .i (mulI [a0, a1, a2, a3, a4, a5, a6, a7, a8, a9, a10, a11, a12, a13, a14, a15] [b0, b1, b2, b3, b4, b5, b6, b7, b8, b9, b10, b11, b12, b13, b14, b15] 4), .i (mulI [a0, a1, a2, a3, a4, a5, a6, a7, a8, a9, a10, a11, a12, a13, a14, a15] [b0, b1, b2, b3, b4, b5, b6, b7, b8, b9, b10, b11, b12, b13, b14, b15] 5), .i (mulI [a0, a1, a2, a3, a4, a5, a6, a7, a8, a9, a10, a11, a12, a13, a14, a15] [b0, b1, b2, b3, b4, b5, b6, b7, b8, b9, b10, b11, b12, b13, b14, b15] 6), .i (mulI [a0, a1, a2, a3, a4, a5, a6, a7, a8, a9, a10, a11, a12, a13, a14, a15] [b0, b1, b2, b3, b4, b5, b6, b7, b8, b9, b10, b11, b12, b13, b14, b15] 7), .i (mulI [a0, a1, a2, a3, a4, a5, a6, a7, a8, a9, a10, a11, a12, a13, a14, a15] [b0, b1, b2, b3, b4, b5, b6, b7, b8, b9, b10, b11, b12, b13, b14, b15] 8), .i (mulI [a0, a1, a2, a3, a4, a5, a6, a7, a8, a9, a10, a11, a12, a13, a14, a15] [b0, b1, b2, b3, b4, b5, b6, b7, b8, b9, b10, b11, b12, b13, b14, b15] 9), .i (mulI [a0, a1, a2, a3, a4, a5, a6, a7, a8, a9, a10, a11, a12, a13, a14, a15] [b0, b1, b2, b3, b4, b5, b6, b7, b8, b9, b10, b11, b12, b13, b14, b15] 10), .i (mulI [a0, a1, a2, a3, a4, a5, a6, a7, a8, a9, a10, a11, a12, a13, a14, a15] [b0, b1, b2, b3, b4, b5, b6, b7, b8, b9, b10, b11, b12, b13, b14, b15] 11), .i (mulI [a0, a1, a2, a3, a4, a5, a6, a7, a8, a9, a10, a11, a12, a13, a14, a15] [b0, b1, b2, b3, b4, b5, b6, b7, b8, b9, b10, b11, b12, b13, b14, b15] 12), .i (mulI [a0, a1, a2, a3, a4, a5, a6, a7, a8, a9, a10, a11, a12, a13, a14, a15] [b0, b1, b2, b3, b4, b5, b6, b7, b8, b9, b10, b11, b12, b13, b14, b15] 13), .i (mulI [a0, a1, a2, a3, a4, a5, a6, a7, a8, a9, a10, a11, a12, a13, a14, a15] [b0, b1, b2, b3, b4, b5, b6, b7, b8, b9, b10, b11, b12, b13, b14, b15] 14), .i (mulI [a0, a1, a2, a3, a4, a5, a6, a7, a8, a9, a10, a11, a12, a13, a14, a15] [b0, b1, b2, b3, b4, b5, b6, b7, b8, b9, b10, b11, b12, b13, b14, b15] 15), .i (mulE [a0, a1, a2, a3, a4, a5, a6, a7, a8, a9, a10, a11, a12, a13, a14, a15] [b0, b1, b2, b3, b4, b5, b6, b7, b8, b9, b10, b11, b12, b13, b14, b15])]
      rw [(mul_bad hbad).2]
      simp only [(mul_bad hbad).1]
    · have g : (!decide (rightP [a0, a1, a2, a3, a4, a5, a6, a7, a8, a9, a10, a11, a12, a13, a14, a15]) || !i2) = false := g
      simp only [Bool.or_eq_false_iff, Bool.not_eq_false', decide_eq_true_eq] at g
      obtain ⟨hA, rfl⟩ := g
      have hB : rightP [b0, b1, b2, b3, b4, b5, b6, b7, b8, b9, b10, b11, b12, b13, b14, b15] := by have := b_of (hr2 (by simpa using hA)); simpa using this.symm
      clear hr2
      have hC0 : rightP [b0, b4, b8, b12] := fun x hx => hB x (by simp only [List.mem_cons, List.not_mem_nil, or_false] at hx ⊢; rcases hx with rfl | rfl | rfl | rfl <;> simp)
      have hC1 : rightP [b1, b5, b9, b13] := fun x hx => hB x (by simp only [List.mem_cons, List.not_mem_nil, or_false] at hx ⊢; rcases hx with rfl | rfl | rfl | rfl <;> simp)
      have hC2 : rightP [b2, b6, b10, b14] := fun x hx => hB x (by simp only [List.mem_cons, List.not_mem_nil, or_false] at hx ⊢; rcases hx with rfl | rfl | rfl | rfl <;> simp)
      have hC3 : rightP [b3, b7, b11, b15] := fun x hx => hB x (by simp only [List.mem_cons, List.not_mem_nil, or_false] at hx ⊢; rcases hx with rfl | rfl | rfl | rfl <;> simp)
      refine h_call (c := c40) rfl (show ([[a0], [a1], [a2], [a3], [a4], [a5], [a6], [a7], [a8], [a9], [a10], [a11], [a12], [a13], [a14], [a15]] : List (List Int)).length = 16 ∧ ([[b0], [b4], [b8], [b12]] : List (List Int)).length = 4 ∧ (0 ≤ (0 : Int) ∧ (0 : Int) ≤ 3) ∧ _ ∧ _ from ⟨rfl, rfl, by omega, rows_ok hA, rows_ok hC0⟩) fun rs hk hr => ?_
      have hr : rs = [.i (ent [a0, a1, a2, a3, a4, a5, a6, a7, a8, a9, a10, a11, a12, a13, a14, a15] [b0, b1, b2, b3, b4, b5, b6, b7, b8, b9, b10, b11, b12, b13, b14, b15] 0 0)] := hr
      subst hr
      refine h_call (c := c40) rfl (show ([[a0], [a1], [a2], [a3], [a4], [a5], [a6], [a7], [a8], [a9], [a10], [a11], [a12], [a13], [a14], [a15]] : List (List Int)).length = 16 ∧ ([[b0], [b4], [b8], [b12]] : List (List Int)).length = 4 ∧ (0 ≤ (1 : Int) ∧ (1 : Int) ≤ 3) ∧ _ ∧ _ from ⟨rfl, rfl, by omega, rows_ok hA, rows_ok hC0⟩) fun rs hk hr => ?_
      have hr : rs = [.i (ent [a0, a1, a2, a3, a4, a5, a6, a7, a8, a9, a10, a11, a12, a13, a14, a15] [b0, b1, b2, b3, b4, b5, b6, b7, b8, b9, b10, b11, b12, b13, b14, b15] 1 0)] := hr
      subst hr
      refine h_call (c := c40) rfl (show ([[a0], [a1], [a2], [a3], [a4], [a5], [a6], [a7], [a8], [a9], [a10], [a11], [a12], [a13], [a14], [a15]] : List (List Int)).length = 16 ∧ ([[b0], [b4], [b8], [b12]] : List (List Int)).length = 4 ∧ (0 ≤ (2 : Int) ∧ (2 : Int) ≤ 3) ∧ _ ∧ _ from ⟨rfl, rfl, by omega, rows_ok hA, rows_ok hC0⟩) fun rs hk hr => ?_
      have hr : rs = [.i (ent [a0, a1, a2, a3, a4, a5, a6, a7, a8, a9, a10, a11, a12, a13, a14, a15] [b0, b1, b2, b3, b4, b5, b6, b7, b8, b9, b10, b11, b12, b13, b14, b15] 2 0)] := hr
      subst hr
      refine h_call (c := c40) rfl (show ([[a0], [a1], [a2], [a3], [a4], [a5], [a6], [a7], [a8], [a9], [a10], [a11], [a12], [a13], [a14], [a15]] : List (List Int)).length = 16 ∧ ([[b0], [b4], [b8], [b12]] : List (List Int)).length = 4 ∧ (0 ≤ (3 : Int) ∧ (3 : Int) ≤ 3) ∧ _ ∧ _ from ⟨rfl, rfl, by omega, rows_ok hA, rows_ok hC0⟩) fun rs hk hr => ?_
      have hr : rs = [.i (ent [a0, a1, a2, a3, a4, a5, a6, a7, a8, a9, a10, a11, a12, a13, a14, a15] [b0, b1, b2, b3, b4, b5, b6, b7, b8, b9, b10, b11, b12, b13, b14, b15] 3 0)] := hr
      subst hr
      refine h_call (c := c40) rfl (show ([[a0], [a1], [a2], [a3], [a4], [a5], [a6], [a7], [a8], [a9], [a10], [a11], [a12], [a13], [a14], [a15]] : List (List Int)).length = 16 ∧ ([[b1], [b5], [b9], [b13]] : List (List Int)).length = 4 ∧ (0 ≤ (0 : Int) ∧ (0 : Int) ≤ 3) ∧ _ ∧ _ from ⟨rfl, rfl, by omega, rows_ok hA, rows_ok hC1⟩) fun rs hk hr => ?_
      have hr : rs = [.i (ent [a0, a1, a2, a3, a4, a5, a6, a7, a8, a9, a10, a11, a12, a13, a14, a15] [b0, b1, b2, b3, b4, b5, b6, b7, b8, b9, b10, b11, b12, b13, b14, b15] 0 1)] := hr
      subst hr
      refine h_call (c := c40) rfl (show ([[a0], [a1], [a2], [a3], [a4], [a5], [a6], [a7], [a8], [a9], [a10], [a11], [a12], [a13], [a14], [a15]] : List (List Int)).length = 16 ∧ ([[b1], [b5], [b9], [b13]] : List (List Int)).length = 4 ∧ (0 ≤ (1 : Int) ∧ (1 : Int) ≤ 3) ∧ _ ∧ _ from ⟨rfl, rfl, by omega, rows_ok hA, rows_ok hC1⟩) fun rs hk hr => ?_
      have hr : rs = [.i (ent [a0, a1, a2, a3, a4, a5, a6, a7, a8, a9, a10, a11, a12, a13, a14, a15] [b0, b1, b2, b3, b4, b5, b6, b7, b8, b9, b10, b11, b12, b13, b14, b15] 1 1)] := hr
      subst hr
      refine h_call (c := c40) rfl (show ([[a0], [a1], [a2], [a3], [a4], [a5], [a6], [a7], [a8], [a9], [a10], [a11], [a12], [a13], [a14], [a15]] : List (List Int)).length = 16 ∧ ([[b1], [b5], [b9], [b13]] : List (List Int)).length = 4 ∧ (0 ≤ (2 : Int) ∧ (2 : Int) ≤ 3) ∧ _ ∧ _ from ⟨rfl, rfl, by omega, rows_ok hA, rows_ok hC1⟩) fun rs hk hr => ?_
      have hr : rs = [.i (ent [a0, a1, a2, a3, a4, a5, a6, a7, a8, a9, a10, a11, a12, a13, a14, a15] [b0, b1, b2, b3, b4, b5, b6, b7, b8, b9, b10, b11, b12, b13, b14, b15] 2 1)] := hr
      subst hr
      refine h_call (c := c40) rfl (show ([[a0], [a1], [a2], [a3], [a4], [a5], [a6], [a7], [a8], [a9], [a10], [a11], [a12], [a13], [a14], [a15]] : List (List Int)).length = 16 ∧ ([[b1], [b5], [b9], [b13]] : List (List Int)).length = 4 ∧ (0 ≤ (3 : Int) ∧ (3 : Int) ≤ 3) ∧ _ ∧ _ from ⟨rfl, rfl, by omega, rows_ok hA, rows_ok hC1⟩) fun rs hk hr => ?_
      have hr : rs = [.i (ent [a0, a1, a2, a3, a4, a5, a6, a7, a8, a9, a10, a11, a12, a13, a14, a15] [b0, b1, b2, b3, b4, b5, b6, b7, b8, b9, b10, b11, b12, b13, b14, b15] 3 1)] := hr
      subst hr
      refine h_call (c := c40) rfl (show ([[a0], [a1], [a2], [a3], [a4], [a5], [a6], [a7], [a8], [a9], [a10], [a11], [a12], [a13], [a14], [a15]] : List (List Int)).length = 16 ∧ ([[b2], [b6], [b10], [b14]] : List (List Int)).length = 4 ∧ (0 ≤ (0 : Int) ∧ (0 : Int) ≤ 3) ∧ _ ∧ _ from ⟨rfl, rfl, by omega, rows_ok hA, rows_ok hC2⟩) fun rs hk hr => ?_
      have hr : rs = [.i (ent [a0, a1, a2, a3, a4, a5, a6, a7, a8, a9, a10, a11, a12, a13, a14, a15] [b0, b1, b2, b3, b4, b5, b6, b7, b8, b9, b10, b11, b12, b13, b14, b15] 0 2)] := hr
      subst hr
      refine h_call (c := c40) rfl (show ([[a0], [a1], [a2], [a3], [a4], [a5], [a6], [a7], [a8], [a9], [a10], [a11], [a12], [a13], [a14], [a15]] : List (List Int)).length = 16 ∧ ([[b2], [b6], [b10], [b14]] : List (List Int)).length = 4 ∧ (0 ≤ (1 : Int) ∧ (1 : Int) ≤ 3) ∧ _ ∧ _ from ⟨rfl, rfl, by omega, rows_ok hA, rows_ok hC2⟩) fun rs hk hr => ?_
      have hr : rs = [.i (ent [a0, a1, a2, a3, a4, a5, a6, a7, a8, a9, a10, a11, a12, a13, a14, a15] [b0, b1, b2, b3, b4, b5, b6, b7, b8, b9, b10, b11, b12, b13, b14, b15] 1 2)] := hr
      subst hr
      refine h_call (c := c40) rfl (show ([[a0], [a1], [a2], [a3], [a4], [a5], [a6], [a7], [a8], [a9], [a10], [a11], [a12], [a13], [a14], [a15]] : List (List Int)).length = 16 ∧ ([[b2], [b6], [b10], [b14]] : List (List Int)).length = 4 ∧ (0 ≤ (2 : Int) ∧ (2 : Int) ≤ 3) ∧ _ ∧ _ from ⟨rfl, rfl, by omega, rows_ok hA, rows_ok hC2⟩) fun rs hk hr => ?_
      have hr : rs = [.i (ent [a0, a1, a2, a3, a4, a5, a6, a7, a8, a9, a10, a11, a12, a13, a14, a15] [b0, b1, b2, b3, b4, b5, b6, b7, b8, b9, b10, b11, b12, b13, b14, b15] 2 2)] := hr
      subst hr
      refine h_call (c := c40) rfl (show ([[a0], [a1], [a2], [a3], [a4], [a5], [a6], [a7], [a8], [a9], [a10], [a11], [a12], [a13], [a14], [a15]] : List (List Int)).length = 16 ∧ ([[b2], [b6], [b10], [b14]] : List (List Int)).length = 4 ∧ (0 ≤ (3 : Int) ∧ (3 : Int) ≤ 3) ∧ _ ∧ _ from ⟨rfl, rfl, by omega, rows_ok hA, rows_ok hC2⟩) fun rs hk hr => ?_
      have hr : rs = [.i (ent [a0, a1, a2, a3, a4, a5, a6, a7, a8, a9, a10, a11, a12, a13, a14, a15] [b0, b1, b2, b3, b4, b5, b6, b7, b8, b9, b10, b11, b12, b13, b14, b15] 3 2)] := hr
      subst hr
      refine h_call (c := c40) rfl (show ([[a0], [a1], [a2], [a3], [a4], [a5], [a6], [a7], [a8], [a9], [a10], [a11], [a12], [a13], [a14], [a15]] : List (List Int)).length = 16 ∧ ([[b3], [b7], [b11], [b15]] : List (List Int)).length = 4 ∧ (0 ≤ (0 : Int) ∧ (0 : Int) ≤ 3) ∧ _ ∧ _ from ⟨rfl, rfl, by omega, rows_ok hA, rows_ok hC3⟩) fun rs hk hr => ?_
      have hr : rs = [.i (ent [a0, a1, a2, a3, a4, a5, a6, a7, a8, a9, a10, a11, a12, a13, a14, a15] [b0, b1, b2, b3, b4, b5, b6, b7, b8, b9, b10, b11, b12, b13, b14, b15] 0 3)] := hr
      subst hr
      refine h_call (c := c40) rfl (show ([[a0], [a1], [a2], [a3], [a4], [a5], [a6], [a7], [a8], [a9], [a10], [a11], [a12], [a13], [a14], [a15]] : List (List Int)).length = 16 ∧ ([[b3], [b7], [b11], [b15]] : List (List Int)).length = 4 ∧ (0 ≤ (1 : Int) ∧ (1 : Int) ≤ 3) ∧ _ ∧ _ from ⟨rfl, rfl, by omega, rows_ok hA, rows_ok hC3⟩) fun rs hk hr => ?_
      have hr : rs = [.i (ent [a0, a1, a2, a3, a4, a5, a6, a7, a8, a9, a10, a11, a12, a13, a14, a15] [b0, b1, b2, b3, b4, b5, b6, b7, b8, b9, b10, b11, b12, b13, b14, b15] 1 3)] := hr
      subst hr
      refine h_call (c := c40) rfl (show ([[a0], [a1], [a2], [a3], [a4], [a5], [a6], [a7], [a8], [a9], [a10], [a11], [a12], [a13], [a14], [a15]] : List (List Int)).length = 16 ∧ ([[b3], [b7], [b11], [b15]] : List (List Int)).length = 4 ∧ (0 ≤ (2 : Int) ∧ (2 : Int) ≤ 3) ∧ _ ∧ _ from ⟨rfl, rfl, by omega, rows_ok hA, rows_ok hC3⟩) fun rs hk hr => ?_
      have hr : rs = [.i (ent [a0, a1, a2, a3, a4, a5, a6, a7, a8, a9, a10, a11, a12, a13, a14, a15] [b0, b1, b2, b3, b4, b5, b6, b7, b8, b9, b10, b11, b12, b13, b14, b15] 2 3)] := hr
      subst hr
      refine h_call (c := c40) rfl (show ([[a0], [a1], [a2], [a3], [a4], [a5], [a6], [a7], [a8], [a9], [a10], [a11], [a12], [a13], [a14], [a15]] : List (List Int)).length = 16 ∧ ([[b3], [b7], [b11], [b15]] : List (List Int)).length = 4 ∧ (0 ≤ (3 : Int) ∧ (3 : Int) ≤ 3) ∧ _ ∧ _ from ⟨rfl, rfl, by omega, rows_ok hA, rows_ok hC3⟩) fun rs hk hr => ?_
      have hr : rs = [.i (ent [a0, a1, a2, a3, a4, a5, a6, a7, a8, a9, a10, a11, a12, a13, a14, a15] [b0, b1, b2, b3, b4, b5, b6, b7, b8, b9, b10, b11, b12, b13, b14, b15] 3 3)] := hr
      subst hr
      refine h_call (c := cRight sg31) rfl trivial fun rs hk hr => ?_
      have hr : rs = [.b (decide (rightP (prodL [a0, a1, a2, a3, a4, a5, a6, a7, a8, a9, a10, a11, a12, a13, a14, a15] [b0, b1, b2, b3, b4, b5, b6, b7, b8, b9, b10, b11, b12, b13, b14, b15])))] := hr
      subst hr
      refine h_ite (fun g => ?_) (fun g => ?_)
      · have g : (!decide (rightP (prodL [a0, a1, a2, a3, a4, a5, a6, a7, a8, a9, a10, a11, a12, a13, a14, a15] [b0, b1, b2, b3, b4, b5, b6, b7, b8, b9, b10, b11, b12, b13, b14, b15]))) = true := g
        rw [Bool.not_eq_true', decide_eq_false_iff_not] at g
        show ([.i 0, .i 0, .i 0, .i 0, .i 0, .i 0, .i 0, .i 0, .i 0, .i 0, .i 0, .i 0, .i 0, .i 0, .i 0, .i 0, .i 4] : List DV) = [.i (mulI [a0, a1, a2, a3, a4, a5, a6, a7, a8, a9, a10, a11, a12, a13, a14, a15] [b0, b1, b2, b3, b4, b5, b6, b7, b8, b9, b10, b11, b12, b13, b14, b15] 0), .i (mulI [a0, a1, a2, a3, a4, a5, a6, a7, a8, a9, a10, a11, a12, a13, a14, a15] [b0, b1, b2, b3, b4, b5, b6, b7, b8, b9, b10, b11, b12, b13, b14, b15] 1), .i (mulI [a0, a1, a2, a3, a4, a5, a6, a7, a8, a9, a10, a11, a12, a13, a14, a15] [b0, b1, b2, b3, b4, b5, b6, b7, b8, b9, b10, b11, b12, b13, b14, b15] 2), .i (mulI [a0, a1, a2, a3, a4, a5, a6, a7, a8, a9, a10, a11, a12, a13, a14, a15] [b0, b1, b2, b3, b4, b5, b6, b7, b8, b9, b10, b11, b12, b13, b14, b15] 3), .i (mulI [a0, a1, a2, a3, a4, a5, a6, a7, a8, a9, a10, a11, a12, a13, a14, a15] [b0, b1, b2, b3, b4, b5, b6, b7, b8, b9, b10, b11, b12, b13, b14, b15] 4), .i (mulI [a0, a1, a2, a3, a4, a5, a6, a7, a8, a9, a10, a11, a12, a13, a14, a15] [b0, b1, b2, b3, b4, b5, b6, b7, b8, b9, b10, b11, b12, b13, b14, b15] 5), .i (mulI [a0, a1, a2, a3, a4, a5, a6, a7, a8, a9, a10, a11, a12, a13, a14, a15] [b0, b1, b2, b3, b4, b5, b6, b7, b8, b9, b10, b11, b12, b13, b14, b15] 6), .i (mulI [a0, a1, a2, a3, a4, a5, a6, a7, a8, a9, a10, a11, a12, a13, a14, a15] [b0, b1, b2, b3, b4, b5, b6, b7, b8, b9, b10, b11, b12, b13, b14, b15] 7), .i (mulI [a0, a1, a2, a3, a4, a5, a6, a7, a8, a9, a10, a11, a12, a13, a14, a15] [b0, b1, b2, b3, b4, b5, b6, b7, b8, b9, b10, b11, b12, b13, b14, b15] 8), .i (mulI [a0, a1, a2, a3, a4, a5, a6, a7, a8, a9, a10, a11, a12, a13, a14, a15] [b0, b1, b2, b3, b4, b5, b6, b7, b8, b9, b10, b11, b12, b13, b14, b15] 9), .i (mulI [a0, a1, a2, a3, a4, a5, a6, a7, a8, a9, a10, a11, a12, a13, a14, a15] [b0, b1, b2, b3, b4, b5, b6, b7, b8, b9, b10, b11, b12, b13, b14, b15] 10), .i (mulI [a0, a1, a2, a3, a4, a5, a6, a7, a8, a9, a10, a11, a12, a13, a14, a15] [b0, b1, b2, b3, b4, b5, b6, b7, b8, b9, b10, b11, b12, b13, b14, b15] 11), .i (mulI [a0, a1, a2, a3, a4, a5, a6, a7, a8, a9, a10, a11, a12, a13, a14, a15] [b0, b1, b2, b3, b4, b5, b6, b7, b8, b9, b10, b11, b12, b13, b14, b15] 12), .i (mulI [a0, a1, a2, a3, a4, a5, a6, a7, a8, a9, a10, a11, a12, a13, a14, a15] [b0, b1, b2, b3, b4, b5, b6, b7, b8, b9, b10, b11, b12, b13, b14, b15] 13), .i (mulI [a0, a1, a2, a3, a4, a5, a6, a7, a8, a9, a10, a11, a12, a13, a14, a15] [b0, b1, b2, b3, b4, b5, b6, b7, b8, b9, b10, b11, b12, b13, b14, b15] 14), .i (mulI [a0, a1, a2, a3, a4, a5, a6, a7, a8, a9, a10, a11, a12, a13, a14, a15] [b0, b1, b2, b3, b4, b5, b6, b7, b8, b9, b10, b11, b12, b13, b14, b15] 15), .i (mulE [a0, a1, a2, a3, a4, a5, a6, a7, a8, a9, a10, a11, a12, a13, a14, a15] [b0, b1, b2, b3, b4, b5, b6, b7, b8, b9, b10, b11, b12, b13, b14, b15])]
        rw [(mul_far hA hB g).2]
        simp only [(mul_far hA hB g).1]
      · have g : (!decide (rightP (prodL [a0, a1, a2, a3, a4, a5, a6, a7, a8, a9, a10, a11, a12, a13, a14, a15] [b0, b1, b2, b3, b4, b5, b6, b7, b8, b9, b10, b11, b12, b13, b14, b15]))) = false := g
        rw [Bool.not_eq_false', decide_eq_true_eq] at g
        show ([.i (ent [a0, a1, a2, a3, a4, a5, a6, a7, a8, a9, a10, a11, a12, a13, a14, a15] [b0, b1, b2, b3, b4, b5, b6, b7, b8, b9, b10, b11, b12, b13, b14, b15] 0 0), .i (ent [a0, a1, a2, a3, a4, a5, a6, a7, a8, a9, a10, a11, a12, a13, a14, a15] [b0, b1, b2, b3, b4, b5, b6, b7, b8, b9, b10, b11, b12, b13, b14, b15] 0 1), .i (ent [a0, a1, a2, a3, a4, a5, a6, a7, a8, a9, a10, a11, a12, a13, a14, a15] [b0, b1, b2, b3, b4, b5, b6, b7, b8, b9, b10, b11, b12, b13, b14, b15] 0 2), .i (ent [a0, a1, a2, a3, a4, a5, a6, a7, a8, a9, a10, a11, a12, a13, a14, a15] [b0, b1, b2, b3, b4, b5, b6, b7, b8, b9, b10, b11, b12, b13, b14, b15] 0 3), .i (ent [a0, a1, a2, a3, a4, a5, a6, a7, a8, a9, a10, a11, a12, a13, a14, a15] [b0, b1, b2, b3, b4, b5, b6, b7, b8, b9, b10, b11, b12, b13, b14, b15] 1 0), .i (ent [a0, a1, a2, a3, a4, a5, a6, a7, a8, a9, a10, a11, a12, a13, a14, a15] [b0, b1, b2, b3, b4, b5, b6, b7, b8, b9, b10, b11, b12, b13, b14, b15] 1 1), .i (ent [a0, a1, a2, a3, a4, a5, a6, a7, a8, a9, a10, a11, a12, a13, a14, a15] [b0, b1, b2, b3, b4, b5, b6, b7, b8, b9, b10, b11, b12, b13, b14, b15] 1 2), .i (ent [a0, a1, a2, a3, a4, a5, a6, a7, a8, a9, a10, a11, a12, a13, a14, a15] [b0, b1, b2, b3, b4, b5, b6, b7, b8, b9, b10, b11, b12, b13, b14, b15] 1 3), .i (ent [a0, a1, a2, a3, a4, a5, a6, a7, a8, a9, a10, a11, a12, a13, a14, a15] [b0, b1, b2, b3, b4, b5, b6, b7, b8, b9, b10, b11, b12, b13, b14, b15] 2 0), .i (ent [a0, a1, a2, a3, a4, a5, a6, a7, a8, a9, a10, a11, a12, a13, a14, a15] [b0, b1, b2, b3, b4, b5, b6, b7, b8, b9, b10, b11, b12, b13, b14, b15] 2 1), .i (ent [a0, a1, a2, a3, a4, a5, a6, a7, a8, a9, a10, a11, a12, a13, a14, a15] [b0, b1, b2, b3, b4, b5, b6, b7, b8, b9, b10, b11, b12, b13, b14, b15] 2 2), .i (ent [a0, a1, a2, a3, a4, a5, a6, a7, a8, a9, a10, a11, a12, a13, a14, a15] [b0, b1, b2, b3, b4, b5, b6, b7, b8, b9, b10, b11, b12, b13, b14, b15] 2 3), .i (ent [a0, a1, a2, a3, a4, a5, a6, a7, a8, a9, a10, a11, a12, a13, a14, a15] [b0, b1, b2, b3, b4, b5, b6, b7, b8, b9, b10, b11, b12, b13, b14, b15] 3 0), .i (ent [a0, a1, a2, a3, a4, a5, a6, a7, a8, a9, a10, a11, a12, a13, a14, a15] [b0, b1, b2, b3, b4, b5, b6, b7, b8, b9, b10, b11, b12, b13, b14, b15] 3 1), .i (ent [a0, a1, a2, a3, a4, a5, a6, a7, a8, a9, a10, a11, a12, a13, a14, a15] [b0, b1, b2, b3, b4, b5, b6, b7, b8, b9, b10, b11, b12, b13, b14, b15] 3 2), .i (ent [a0, a1, a2, a3, a4, a5, a6, a7, a8, a9, a10, a11, a12, a13, a14, a15] [b0, b1, b2, b3, b4, b5, b6, b7, b8, b9, b10, b11, b12, b13, b14, b15] 3 3), .i 0] : List DV) = [.i (mulI [a0, a1, a2, a3, a4, a5, a6, a7, a8, a9, a10, a11, a12, a13, a14, a15] [b0, b1, b2, b3, b4, b5, b6, b7, b8, b9, b10, b11, b12, b13, b14, b15] 0), .i (mulI [a0, a1, a2, a3, a4, a5, a6, a7, a8, a9, a10, a11, a12, a13, a14, a15] [b0, b1, b2, b3, b4, b5, b6, b7, b8, b9, b10, b11, b12, b13, b14, b15] 1), .i (mulI [a0, a1, a2, a3, a4, a5, a6, a7, a8, a9, a10, a11, a12, a13, a14, a15] [b0, b1, b2, b3, b4, b5, b6, b7, b8, b9, b10, b11, b12, b13, b14, b15] 2), .i (mulI [a0, a1, a2, a3, a4, a5, a6, a7, a8, a9, a10, a11, a12, a13, a14, a15] [b0, b1, b2, b3, b4, b5, b6, b7, b8, b9, b10, b11, b12, b13, b14, b15] 3), .i (mulI [a0, a1, a2, a3, a4, a5, a6, a7, a8, a9, a10, a11, a12, a13, a14, a15] [b0, b1, b2, b3, b4, b5, b6, b7, b8, b9, b10, b11, b12, b13, b14, b15] 4), .i (mulI [a0, a1, a2, a3, a4, a5, a6, a7, a8, a9, a10, a11, a12, a13, a14, a15] [b0, b1, b2, b3, b4, b5, b6, b7, b8, b9, b10, b11, b12, b13, b14, b15] 5), .i (mulI [a0, a1, a2, a3, a4, a5, a6, a7, a8, a9, a10, a11, a12, a13, a14, a15] [b0, b1, b2, b3, b4, b5, b6, b7, b8, b9, b10, b11, b12, b13, b14, b15] 6), .i (mulI [a0, a1, a2, a3, a4, a5, a6, a7, a8, a9, a10, a11, a12, a13, a14, a15] [b0, b1, b2, b3, b4, b5, b6, b7, b8, b9, b10, b11, b12, b13, b14, b15] 7), .i (mulI [a0, a1, a2, a3, a4, a5, a6, a7, a8, a9, a10, a11, a12, a13, a14, a15] [b0, b1, b2, b3, b4, b5, b6, b7, b8, b9, b10, b11, b12, b13, b14, b15] 8), .i (mulI [a0, a1, a2, a3, a4, a5, a6, a7, a8, a9, a10, a11, a12, a13, a14, a15] [b0, b1, b2, b3, b4, b5, b6, b7, b8, b9, b10, b11, b12, b13, b14, b15] 9), .i (mulI [a0, a1, a2, a3, a4, a5, a6, a7, a8, a9, a10, a11, a12, a13, a14, a15] [b0, b1, b2, b3, b4, b5, b6, b7, b8, b9, b10, b11, b12, b13, b14, b15] 10), .i (mulI [a0, a1, a2, a3, a4, a5, a6, a7, a8, a9, a10, a11, a12, a13, a14, a15] [b0, b1, b2, b3, b4, b5, b6, b7, b8, b9, b10, b11, b12, b13, b14, b15] 11), .i (mulI [a0, a1, a2, a3, a4, a5, a6, a7, a8, a9, a10, a11, a12, a13, a14, a15] [b0, b1, b2, b3, b4, b5, b6, b7, b8, b9, b10, b11, b12, b13, b14, b15] 12), .i (mulI [a0, a1, a2, a3, a4, a5, a6, a7, a8, a9, a10, a11, a12, a13, a14, a15] [b0, b1, b2, b3, b4, b5, b6, b7, b8, b9, b10, b11, b12, b13, b14, b15] 13), .i (mulI [a0, a1, a2, a3, a4, a5, a6, a7, a8, a9, a10, a11, a12, a13, a14, a15] [b0, b1, b2, b3, b4, b5, b6, b7, b8, b9, b10, b11, b12, b13, b14, b15] 14), .i (mulI [a0, a1, a2, a3, a4, a5, a6, a7, a8, a9, a10, a11, a12, a13, a14, a15] [b0, b1, b2, b3, b4, b5, b6, b7, b8, b9, b10, b11, b12, b13, b14, b15] 15), .i (mulE [a0, a1, a2, a3, a4, a5, a6, a7, a8, a9, a10, a11, a12, a13, a14, a15] [b0, b1, b2, b3, b4, b5, b6, b7, b8, b9, b10, b11, b12, b13, b14, b15])]
        rw [(mul_ok hA hB g).2]
        simp only [(mul_ok hA hB g).1]
        rfl
  · cases hp
theorem ok29 : ContractOk Try.prog 29 (cMul sg29) := by
  refine contract_of (Γ := knownOf [(28, cRight sg28), (37, c37), (38, c38)]) (known_cons ok28 rfl (known_cons ok37 rfl (known_cons ok38 rfl known_nil))) Try.func29 rfl rfl is29 fun ds hk hp => ?_
  split at hp
  · skip
    rename_i a0 a1 a2 a3 a4 a5 a6 a7 a8 a9 a10 a11 a12 a13 a14 a15 b0 b1 b2 b3 b4 b5 b6 b7 b8 b9 b10 b11 b12 b13 b14 b15
    refine h_call (c := cRight sg28) rfl trivial fun rs hk hr => ?_
    have hr : rs = [.b (decide (rightP [a0, a1, a2, a3, a4, a5, a6, a7, a8, a9, a10, a11, a12, a13, a14, a15]))] := hr
    subst hr
    refine h_callg (c := cRight sg28) rfl (fun _ => trivial) fun rs hk hr2 => ?_
    obtain ⟨i2, rfl⟩ := kinds1b hk
    have hr2 : decide (rightP [a0, a1, a2, a3, a4, a5, a6, a7, a8, a9, a10, a11, a12, a13, a14, a15]) = true → [DV.b i2] = [DV.b (decide (rightP [b0, b1, b2, b3, b4, b5, b6, b7, b8, b9, b10, b11, b12, b13, b14, b15]))] := hr2
    refine h_ite (fun g => ?_) (fun g => ?_)
    · have g : (!decide (rightP [a0, a1, a2, a3, a4, a5, a6, a7, a8, a9, a10, a11, a12, a13, a14, a15]) || !i2) = true := g
      have hbad : ¬ (rightP [a0, a1, a2, a3, a4, a5, a6, a7, a8, a9, a10, a11, a12, a13, a14, a15] ∧ rightP [b0, b1, b2, b3, b4, b5, b6, b7, b8, b9, b10, b11, b12, b13, b14, b15]) := fun ⟨h1, h2⟩ => by
        rw [b_of (hr2 (by simpa using h1))] at g
        simp [h1, h2] at g
      show ([.i 0, .i 0, .i 0, .i 0, .i 0, .i 0, .i 0, .i 0, .i 0, .i 0, .i 0, .i 0, .i 0, .i 0, .i 0, .i 0, .i 1] : List DV) = [.i (mulI [a0, a1, a2, a3, a4, a5, a6, a7, a8, a9, a10, a11, a12, a13, a14, a15] [b0, b1, b2, b3, b4, b5, b6, b7, b8, b9, b10, b11, b12, b13, b14, b15] 0), .i (mulI [a0, a1, a2, a3, a4, a5, a6, a7, a8, a9, a10, a11, a12, a13, a14, a15] [b0, b1, b2, b3, b4, b5, b6, b7, b8, b9, b10, b11, b12, b13, b14, b15] 1), .i (mulI [a0, a1, a2, a3, a4, a5, a6, a7, a8, a9, a10, a11, a12, a13, a14, a15] [b0, b1, b2, b3, b4, b5, b6, b7, b8, b9, b10, b11, b12, b13, b14, b15] 2), .i (mulI [a0, a1, a2, a3, a4, a5, a6, a7, a8, a9, a10, a11, a12, a13, a14, a15] [b0, b1, b2, b3, b4, b5, b6, b7, b8, b9, b10, b11, b12, b13, b14, b15] 3), .i (mulI [a0, a1, a2, a3, a4, a5, a6, a7, a8, a9, a10, a11, a12, a13, a14, a15] [b0, b1, b2, b3, b4, b5, b6, b7, b8, b9, b10, b11, b12, b13, b14, b15] 4), .i (mulI [a0, a1, a2, a3, a4, a5, a6, a7, a8, a9, a10, a11, a12, a13, a14, a15] [b0, b1, b2, b3, b4, b5, b6, b7, b8, b9, b10, b11, b12, b13, b14, b15] 5), .i (mulI [a0, a1, a2, a3, a4, a5, a6, a7, a8, a9, a10, a11, a12, a13, a14, a15] [b0, b1, b2, b3, b4, b5, b6, b7, b8, b9, b10, b11, b12, b13, b14, b15] 6), .i (mulI [a0, a1, a2, a3, a4, a5, a6, a7, a8, a9, a10, a11, a12, a13, a14, a15] [b0, b1, b2, b3, b4, b5, b6, b7, b8, b9, b10, b11, b12, b13, b14, b15] 7), .i (mulI [a0, a1, a2, a3, a4, a5, a6, a7, a8, a9, a10, a11, a12, a13, a14, a15] [b0, b1, b2, b3, b4, b5, b6, b7, b8, b9, b10, b11, b12, b13, b14, b15] 8), .i (mulI [a0, a1, a2, a3, a4, a5, a6, a7, a8, a9, a10, a11, a12, a13, a14, a15] [b0, b1, b2, b3, b4, b5, b6, b7, b8, b9, b10, b11, b12, b13, b14, b15] 9), .i (mulI [a0, a1, a2, a3, a4, a5, a6, a7, a8, a9, a10, a11, a12, a13, a14, a15] [b0, b1, b2, b3, b4, b5, b6, b7, b8, b9, b10, b11, b12, b13, b14, b15] 10), .i (mulI [a0, a1, a2, a3, a4, a5, a6, a7, a8, a9, a10, a11, a12, a13, a14, a15] [b0, b1, b2, b3, b4, b5, b6, b7, b8, b9, b10, b11, b12, b13, b14, b15] 11), .i (mulI [a0, a1, a2, a3, a4, a5, a6, a7, a8, a9, a10, a11, a12, a13, a14, a15] [b0, b1, b2, b3, b4, b5, b6, b7, b8, b9, b10, b11, b12, b13, b14, b15] 12), .i (mulI [a0, a1, a2, a3, a4, a5, a6, a7, a8, a9, a10, a11, a12, a13, a14, a15] [b0, b1, b2, b3, b4, b5, b6, b7, b8, b9, b10, b11, b12, b13, b14, b15] 13), .i (mulI [a0, a1, a2, a3, a4, a5, a6, a7, a8, a9, a10, a11, a12, a13, a14, a15] [b0, b1, b2, b3, b4, b5, b6, b7, b8, b9, b10, b11, b12, b13, b14, b15] 14), .i (mulI [a0, a1, a2, a3, a4, a5, a6, a7, a8, a9, a10, a11, a12, a13, a14, a15] [b0, b1, b2, b3, b4, b5, b6, b7, b8, b9, b10, b11, b12, b13, b14, b15] 15), .i (mulE [a0, a1, a2, a3, a4, a5, a6, a7, a8, a9, a10, a11, a12, a13, a14, a15] [b0, b1, b2, b3, b4, b5, b6, b7, b8, b9, b10, b11, b12, b13, b14, b15])]
      rw [(mul_bad hbad).2]
      simp only [(mul_bad hbad).1]
    · have g : (!decide (rightP [a0, a1, a2, a3, a4, a5, a6, a7, a8, a9, a10, a11, a12, a13, a14, a15]) || !i2) = false := g
      simp only [Bool.or_eq_false_iff, Bool.not_eq_false', decide_eq_true_eq] at g
      obtain ⟨hA, rfl⟩ := g
      have hB : rightP [b0, b1, b2, b3, b4, b5, b6, b7, b8, b9, b10, b11, b12, b13, b14, b15] := by have := b_of (hr2 (by simpa using hA)); simpa using this.symm
      clear hr2
      have hA0 : inB a0 := hA a0 (by simp)
      have hA1 : inB a1 := hA a1 (by simp)
      have hA2 : inB a2 := hA a2 (by simp)
      have hA3 : inB a3 := hA a3 (by simp)
      have hA4 : inB a4 := hA a4 (by simp)
      have hA5 : inB a5 := hA a5 (by simp)
      have hA6 : inB a6 := hA a6 (by simp)
      have hA7 : inB a7 := hA a7 (by simp)
      have hA8 : inB a8 := hA a8 (by simp)
      have hA9 : inB a9 := hA a9 (by simp)
      have hA10 : inB a10 := hA a10 (by simp)
      have hA11 : inB a11 := hA a11 (by simp)
      have hA12 : inB a12 := hA a12 (by simp)
      have hA13 : inB a13 := hA a13 (by simp)
      have hA14 : inB a14 := hA a14 (by simp)
      have hA15 : inB a15 := hA a15 (by simp)
      have hB0 : inB b0 := hB b0 (by simp)
      have hB1 : inB b1 := hB b1 (by simp)
      have hB2 : inB b2 := hB b2 (by simp)
      have hB3 : inB b3 := hB b3 (by simp)
      have hB4 : inB b4 := hB b4 (by simp)
      have hB5 : inB b5 := hB b5 (by simp)
      have hB6 : inB b6 := hB b6 (by simp)
      have hB7 : inB b7 := hB b7 (by simp)
      have hB8 : inB b8 := hB b8 (by simp)
      have hB9 : inB b9 := hB b9 (by simp)
      have hB10 : inB b10 := hB b10 (by simp)
      have hB11 : inB b11 := hB b11 (by simp)
      have hB12 : inB b12 := hB b12 (by simp)
      have hB13 : inB b13 := hB b13 (by simp)
      have hB14 : inB b14 := hB b14 (by simp)
      have hB15 : inB b15 := hB b15 (by simp)
      refine h_call (c := c37) rfl (show (0 ≤ (0 : Int) ∧ (0 : Int) ≤ 3) ∧ 0 ≤ (0 : Int) ∧ (0 : Int) ≤ 3 by omega) fun rs hk hr => ?_
      have hr : rs = [.i a0] := hr
      subst hr
      refine h_call (c := c37) rfl (show (0 ≤ (0 : Int) ∧ (0 : Int) ≤ 3) ∧ 0 ≤ (0 : Int) ∧ (0 : Int) ≤ 3 by omega) fun rs hk hr => ?_
      have hr : rs = [.i b0] := hr
      subst hr
      refine h_needR (a0 * b0) rfl (nd1 hA0 hB0) ?_
      refine h_call (c := c37) rfl (show (0 ≤ (0 : Int) ∧ (0 : Int) ≤ 3) ∧ 0 ≤ (1 : Int) ∧ (1 : Int) ≤ 3 by omega) fun rs hk hr => ?_
      have hr : rs = [.i a1] := hr
      subst hr
      refine h_call (c := c37) rfl (show (0 ≤ (1 : Int) ∧ (1 : Int) ≤ 3) ∧ 0 ≤ (0 : Int) ∧ (0 : Int) ≤ 3 by omega) fun rs hk hr => ?_
      have hr : rs = [.i b4] := hr
      subst hr
      refine h_needR (a1 * b4) rfl (nd1 hA1 hB4) ?_
      refine h_needR (a0 * b0 + a1 * b4) rfl (nd2 hA0 hB0 hA1 hB4) ?_
      refine h_call (c := c37) rfl (show (0 ≤ (0 : Int) ∧ (0 : Int) ≤ 3) ∧ 0 ≤ (2 : Int) ∧ (2 : Int) ≤ 3 by omega) fun rs hk hr => ?_
      have hr : rs = [.i a2] := hr
      subst hr
      refine h_call (c := c37) rfl (show (0 ≤ (2 : Int) ∧ (2 : Int) ≤ 3) ∧ 0 ≤ (0 : Int) ∧ (0 : Int) ≤ 3 by omega) fun rs hk hr => ?_
      have hr : rs = [.i b8] := hr
      subst hr
      refine h_needR (a2 * b8) rfl (nd1 hA2 hB8) ?_
      refine h_needR (a0 * b0 + a1 * b4 + a2 * b8) rfl (nd3 hA0 hB0 hA1 hB4 hA2 hB8) ?_
      refine h_call (c := c37) rfl (show (0 ≤ (0 : Int) ∧ (0 : Int) ≤ 3) ∧ 0 ≤ (3 : Int) ∧ (3 : Int) ≤ 3 by omega) fun rs hk hr => ?_
      have hr : rs = [.i a3] := hr
      subst hr
      refine h_call (c := c37) rfl (show (0 ≤ (3 : Int) ∧ (3 : Int) ≤ 3) ∧ 0 ≤ (0 : Int) ∧ (0 : Int) ≤ 3 by omega) fun rs hk hr => ?_
      have hr : rs = [.i b12] := hr
      subst hr
      refine h_needR (a3 * b12) rfl (nd1 hA3 hB12) ?_
      refine h_needR (a0 * b0 + a1 * b4 + a2 * b8 + a3 * b12) rfl (nd4 hA0 hB0 hA1 hB4 hA2 hB8 hA3 hB12) ?_
      refine h_call (c := c38) rfl (show bigP (a0 * b0 + a1 * b4 + a2 * b8 + a3 * b12) from big4 hA0 hB0 hA1 hB4 hA2 hB8 hA3 hB12) fun rs hk hr => ?_
      have hr : rs = [.i (ent [a0, a1, a2, a3, a4, a5, a6, a7, a8, a9, a10, a11, a12, a13, a14, a15] [b0, b1, b2, b3, b4, b5, b6, b7, b8, b9, b10, b11, b12, b13, b14, b15] 0 0)] := hr
      subst hr
      refine h_call (c := c37) rfl (show (0 ≤ (0 : Int) ∧ (0 : Int) ≤ 3) ∧ 0 ≤ (0 : Int) ∧ (0 : Int) ≤ 3 by omega) fun rs hk hr => ?_
      have hr : rs = [.i a0] := hr
      subst hr
      refine h_call (c := c37) rfl (show (0 ≤ (0 : Int) ∧ (0 : Int) ≤ 3) ∧ 0 ≤ (1 : Int) ∧ (1 : Int) ≤ 3 by omega) fun rs hk hr => ?_
      have hr : rs = [.i b1] := hr
      subst hr
      refine h_needR (a0 * b1) rfl (nd1 hA0 hB1) ?_
      refine h_call (c := c37) rfl (show (0 ≤ (0 : Int) ∧ (0 : Int) ≤ 3) ∧ 0 ≤ (1 : Int) ∧ (1 : Int) ≤ 3 by omega) fun rs hk hr => ?_
      have hr : rs = [.i a1] := hr
      subst hr
      refine h_call (c := c37) rfl (show (0 ≤ (1 : Int) ∧ (1 : Int) ≤ 3) ∧ 0 ≤ (1 : Int) ∧ (1 : Int) ≤ 3 by omega) fun rs hk hr => ?_
      have hr : rs = [.i b5] := hr
      subst hr
      refine h_needR (a1 * b5) rfl (nd1 hA1 hB5) ?_
      refine h_needR (a0 * b1 + a1 * b5) rfl (nd2 hA0 hB1 hA1 hB5) ?_
      refine h_call (c := c37) rfl (show (0 ≤ (0 : Int) ∧ (0 : Int) ≤ 3) ∧ 0 ≤ (2 : Int) ∧ (2 : Int) ≤ 3 by omega) fun rs hk hr => ?_
      have hr : rs = [.i a2] := hr
      subst hr
      refine h_call (c := c37) rfl (show (0 ≤ (2 : Int) ∧ (2 : Int) ≤ 3) ∧ 0 ≤ (1 : Int) ∧ (1 : Int) ≤ 3 by omega) fun rs hk hr => ?_
      have hr : rs = [.i b9] := hr
      subst hr
      refine h_needR (a2 * b9) rfl (nd1 hA2 hB9) ?_
      refine h_needR (a0 * b1 + a1 * b5 + a2 * b9) rfl (nd3 hA0 hB1 hA1 hB5 hA2 hB9) ?_
      refine h_call (c := c37) rfl (show (0 ≤ (0 : Int) ∧ (0 : Int) ≤ 3) ∧ 0 ≤ (3 : Int) ∧ (3 : Int) ≤ 3 by omega) fun rs hk hr => ?_
      have hr : rs = [.i a3] := hr
      subst hr
      refine h_call (c := c37) rfl (show (0 ≤ (3 : Int) ∧ (3 : Int) ≤ 3) ∧ 0 ≤ (1 : Int) ∧ (1 : Int) ≤ 3 by omega) fun rs hk hr => ?_
      have hr : rs = [.i b13] := hr
      subst hr
      refine h_needR (a3 * b13) rfl (nd1 hA3 hB13) ?_
      refine h_needR (a0 * b1 + a1 * b5 + a2 * b9 + a3 * b13) rfl (nd4 hA0 hB1 hA1 hB5 hA2 hB9 hA3 hB13) ?_
      refine h_call (c := c38) rfl (show bigP (a0 * b1 + a1 * b5 + a2 * b9 + a3 * b13) from big4 hA0 hB1 hA1 hB5 hA2 hB9 hA3 hB13) fun rs hk hr => ?_
      have hr : rs = [.i (ent [a0, a1, a2, a3, a4, a5, a6, a7, a8, a9, a10, a11, a12, a13, a14, a15] [b0, b1, b2, b3, b4, b5, b6, b7, b8, b9, b10, b11, b12, b13, b14, b15] 0 1)] := hr
      subst hr
      refine h_call (c := c37) rfl (show (0 ≤ (0 : Int) ∧ (0 : Int) ≤ 3) ∧ 0 ≤ (0 : Int) ∧ (0 : Int) ≤ 3 by omega) fun rs hk hr => ?_
      have hr : rs = [.i a0] := hr
      subst hr
      refine h_call (c := c37) rfl (show (0 ≤ (0 : Int) ∧ (0 : Int) ≤ 3) ∧ 0 ≤ (2 : Int) ∧ (2 : Int) ≤ 3 by omega) fun rs hk hr => ?_
      have hr : rs = [.i b2] := hr
      subst hr
      refine h_needR (a0 * b2) rfl (nd1 hA0 hB2) ?_
      refine h_call (c := c37) rfl (show (0 ≤ (0 : Int) ∧ (0 : Int) ≤ 3) ∧ 0 ≤ (1 : Int) ∧ (1 : Int) ≤ 3 by omega) fun rs hk hr => ?_
      have hr : rs = [.i a1] := hr
      subst hr
      refine h_call (c := c37) rfl (show (0 ≤ (1 : Int) ∧ (1 : Int) ≤ 3) ∧ 0 ≤ (2 : Int) ∧ (2 : Int) ≤ 3 by omega) fun rs hk hr => ?_
      have hr : rs = [.i b6] := hr
      subst hr
      refine h_needR (a1 * b6) rfl (nd1 hA1 hB6) ?_
      refine h_needR (a0 * b2 + a1 * b6) rfl (nd2 hA0 hB2 hA1 hB6) ?_
      refine h_call (c := c37) rfl (show (0 ≤ (0 : Int) ∧ (0 : Int) ≤ 3) ∧ 0 ≤ (2 : Int) ∧ (2 : Int) ≤ 3 by omega) fun rs hk hr => ?_
      have hr : rs = [.i a2] := hr
      subst hr
      refine h_call (c := c37) rfl (show (0 ≤ (2 : Int) ∧ (2 : Int) ≤ 3) ∧ 0 ≤ (2 : Int) ∧ (2 : Int) ≤ 3 by omega) fun rs hk hr => ?_
      have hr : rs = [.i b10] := hr
      subst hr
      refine h_needR (a2 * b10) rfl (nd1 hA2 hB10) ?_
      refine h_needR (a0 * b2 + a1 * b6 + a2 * b10) rfl (nd3 hA0 hB2 hA1 hB6 hA2 hB10) ?_
      refine h_call (c := c37) rfl (show (0 ≤ (0 : Int) ∧ (0 : Int) ≤ 3) ∧ 0 ≤ (3 : Int) ∧ (3 : Int) ≤ 3 by omega) fun rs hk hr => ?_
      have hr : rs = [.i a3] := hr
      subst hr
      refine h_call (c := c37) rfl (show (0 ≤ (3 : Int) ∧ (3 : Int) ≤ 3) ∧ 0 ≤ (2 : Int) ∧ (2 : Int) ≤ 3 by omega) fun rs hk hr => ?_
      have hr : rs = [.i b14] := hr
      subst hr
      refine h_needR (a3 * b14) rfl (nd1 hA3 hB14) ?_
      refine h_needR (a0 * b2 + a1 * b6 + a2 * b10 + a3 * b14) rfl (nd4 hA0 hB2 hA1 hB6 hA2 hB10 hA3 hB14) ?_
      refine h_call (c := c38) rfl (show bigP (a0 * b2 + a1 * b6 + a2 * b10 + a3 * b14) from big4 hA0 hB2 hA1 hB6 hA2 hB10 hA3 hB14) fun rs hk hr => ?_
      have hr : rs = [.i (ent [a0, a1, a2, a3, a4, a5, a6, a7, a8, a9, a10, a11, a12, a13, a14, a15] [b0, b1, b2, b3, b4, b5, b6, b7, b8, b9, b10, b11, b12, b13, b14, b15] 0 2)] := hr
      subst hr
      refine h_call (c := c37) rfl (show (0 ≤ (0 : Int) ∧ (0 : Int) ≤ 3) ∧ 0 ≤ (0 : Int) ∧ (0 : Int) ≤ 3 by omega) fun rs hk hr => ?_
      have hr : rs = [.i a0] := hr
      subst hr
      refine h_call (c := c37) rfl (show (0 ≤ (0 : Int) ∧ (0 : Int) ≤ 3) ∧ 0 ≤ (3 : Int) ∧ (3 : Int) ≤ 3 by omega) fun rs hk hr => ?_
      have hr : rs = [.i b3] := hr
      subst hr
      refine h_needR (a0 * b3) rfl (nd1 hA0 hB3) ?_
      refine h_call (c := c37) rfl (show (0 ≤ (0 : Int) ∧ (0 : Int) ≤ 3) ∧ 0 ≤ (1 : Int) ∧ (1 : Int) ≤ 3 by omega) fun rs hk hr => ?_
      have hr : rs = [.i a1] := hr
      subst hr
      refine h_call (c := c37) rfl (show (0 ≤ (1 : Int) ∧ (1 : Int) ≤ 3) ∧ 0 ≤ (3 : Int) ∧ (3 : Int) ≤ 3 by omega) fun rs hk hr => ?_
      have hr : rs = [.i b7] := hr
      subst hr
      refine h_needR (a1 * b7) rfl (nd1 hA1 hB7) ?_
      refine h_needR (a0 * b3 + a1 * b7) rfl (nd2 hA0 hB3 hA1 hB7) ?_
      refine h_call (c := c37) rfl (show (0 ≤ (0 : Int) ∧ (0 : Int) ≤ 3) ∧ 0 ≤ (2 : Int) ∧ (2 : Int) ≤ 3 by omega) fun rs hk hr => ?_
      have hr : rs = [.i a2] := hr
      subst hr
      refine h_call (c := c37) rfl (show (0 ≤ (2 : Int) ∧ (2 : Int) ≤ 3) ∧ 0 ≤ (3 : Int) ∧ (3 : Int) ≤ 3 by omega) fun rs hk hr => ?_
      have hr : rs = [.i b11] := hr
      subst hr
      refine h_needR (a2 * b11) rfl (nd1 hA2 hB11) ?_
      refine h_needR (a0 * b3 + a1 * b7 + a2 * b11) rfl (nd3 hA0 hB3 hA1 hB7 hA2 hB11) ?_
      refine h_call (c := c37) rfl (show (0 ≤ (0 : Int) ∧ (0 : Int) ≤ 3) ∧ 0 ≤ (3 : Int) ∧ (3 : Int) ≤ 3 by omega) fun rs hk hr => ?_
      have hr : rs = [.i a3] := hr
      subst hr
      refine h_call (c := c37) rfl (show (0 ≤ (3 : Int) ∧ (3 : Int) ≤ 3) ∧ 0 ≤ (3 : Int) ∧ (3 : Int) ≤ 3 by omega) fun rs hk hr => ?_
      have hr : rs = [.i b15] := hr
      subst hr
      refine h_needR (a3 * b15) rfl (nd1 hA3 hB15) ?_
      refine h_needR (a0 * b3 + a1 * b7 + a2 * b11 + a3 * b15) rfl (nd4 hA0 hB3 hA1 hB7 hA2 hB11 hA3 hB15) ?_
      refine h_call (c := c38) rfl (show bigP (a0 * b3 + a1 * b7 + a2 * b11 + a3 * b15) from big4 hA0 hB3 hA1 hB7 hA2 hB11 hA3 hB15) fun rs hk hr => ?_
      have hr : rs = [.i (ent [a0, a1, a2, a3, a4, a5, a6, a7, a8, a9, a10, a11, a12, a13, a14, a15] [b0, b1, b2, b3, b4, b5, b6, b7, b8, b9, b10, b11, b12, b13, b14, b15] 0 3)] := hr
      subst hr
      refine h_call (c := c37) rfl (show (0 ≤ (1 : Int) ∧ (1 : Int) ≤ 3) ∧ 0 ≤ (0 : Int) ∧ (0 : Int) ≤ 3 by omega) fun rs hk hr => ?_
      have hr : rs = [.i a4] := hr
      subst hr
      refine h_call (c := c37) rfl (show (0 ≤ (0 : Int) ∧ (0 : Int) ≤ 3) ∧ 0 ≤ (0 : Int) ∧ (0 : Int) ≤ 3 by omega) fun rs hk hr => ?_
      have hr : rs = [.i b0] := hr
      subst hr
      refine h_needR (a4 * b0) rfl (nd1 hA4 hB0) ?_
      refine h_call (c := c37) rfl (show (0 ≤ (1 : Int) ∧ (1 : Int) ≤ 3) ∧ 0 ≤ (1 : Int) ∧ (1 : Int) ≤ 3 by omega) fun rs hk hr => ?_
      have hr : rs = [.i a5] := hr
      subst hr
      refine h_call (c := c37) rfl (show (0 ≤ (1 : Int) ∧ (1 : Int) ≤ 3) ∧ 0 ≤ (0 : Int) ∧ (0 : Int) ≤ 3 by omega) fun rs hk hr => ?_
      have hr : rs = [.i b4] := hr
      subst hr
      refine h_needR (a5 * b4) rfl (nd1 hA5 hB4) ?_
      refine h_needR (a4 * b0 + a5 * b4) rfl (nd2 hA4 hB0 hA5 hB4) ?_
      refine h_call (c := c37) rfl (show (0 ≤ (1 : Int) ∧ (1 : Int) ≤ 3) ∧ 0 ≤ (2 : Int) ∧ (2 : Int) ≤ 3 by omega) fun rs hk hr => ?_
      have hr : rs = [.i a6] := hr
      subst hr
      refine h_call (c := c37) rfl (show (0 ≤ (2 : Int) ∧ (2 : Int) ≤ 3) ∧ 0 ≤ (0 : Int) ∧ (0 : Int) ≤ 3 by omega) fun rs hk hr => ?_
      have hr : rs = [.i b8] := hr
      subst hr
      refine h_needR (a6 * b8) rfl (nd1 hA6 hB8) ?_
      refine h_needR (a4 * b0 + a5 * b4 + a6 * b8) rfl (nd3 hA4 hB0 hA5 hB4 hA6 hB8) ?_
      refine h_call (c := c37) rfl (show (0 ≤ (1 : Int) ∧ (1 : Int) ≤ 3) ∧ 0 ≤ (3 : Int) ∧ (3 : Int) ≤ 3 by omega) fun rs hk hr => ?_
      have hr : rs = [.i a7] := hr
      subst hr
      refine h_call (c := c37) rfl (show (0 ≤ (3 : Int) ∧ (3 : Int) ≤ 3) ∧ 0 ≤ (0 : Int) ∧ (0 : Int) ≤ 3 by omega) fun rs hk hr => ?_
      have hr : rs = [.i b12] := hr
      subst hr
      refine h_needR (a7 * b12) rfl (nd1 hA7 hB12) ?_
      refine h_needR (a4 * b0 + a5 * b4 + a6 * b8 + a7 * b12) rfl (nd4 hA4 hB0 hA5 hB4 hA6 hB8 hA7 hB12) ?_
      refine h_call (c := c38) rfl (show bigP (a4 * b0 + a5 * b4 + a6 * b8 + a7 * b12) from big4 hA4 hB0 hA5 hB4 hA6 hB8 hA7 hB12) fun rs hk hr => ?_
      have hr : rs = [.i (ent [a0, a1, a2, a3, a4, a5, a6, a7, a8, a9, a10, a11, a12, a13, a14, a15] [b0, b1, b2, b3, b4, b5, b6, b7, b8, b9, b10, b11, b12, b13, b14, b15] 1 0)] := hr
      subst hr
      refine h_call (c := c37) rfl (show (0 ≤ (1 : Int) ∧ (1 : Int) ≤ 3) ∧ 0 ≤ (0 : Int) ∧ (0 : Int) ≤ 3 by omega) fun rs hk hr => ?_
      have hr : rs = [.i a4] := hr
      subst hr
      refine h_call (c := c37) rfl (show (0 ≤ (0 : Int) ∧ (0 : Int) ≤ 3) ∧ 0 ≤ (1 : Int) ∧ (1 : Int) ≤ 3 by omega) fun rs hk hr => ?_
      have hr : rs = [.i b1] := hr
      subst hr
      refine h_needR (a4 * b1) rfl (nd1 hA4 hB1) ?_
      refine h_call (c := c37) rfl (show (0 ≤ (1 : Int) ∧ (1 : Int) ≤ 3) ∧ 0 ≤ (1 : Int) ∧ (1 : Int) ≤ 3 by omega) fun rs hk hr => ?_
      have hr : rs = [.i a5] := hr
      subst hr
      refine h_call (c := c37) rfl (show (0 ≤ (1 : Int) ∧ (1 : Int) ≤ 3) ∧ 0 ≤ (1 : Int) ∧ (1 : Int) ≤ 3 by omega) fun rs hk hr => ?_
      have hr : rs = [.i b5] := hr
      subst hr
      refine h_needR (a5 * b5) rfl (nd1 hA5 hB5) ?_
      refine h_needR (a4 * b1 + a5 * b5) rfl (nd2 hA4 hB1 hA5 hB5) ?_
      refine h_call (c := c37) rfl (show (0 ≤ (1 : Int) ∧ (1 : Int) ≤ 3) ∧ 0 ≤ (2 : Int) ∧ (2 : Int) ≤ 3 by omega) fun rs hk hr => ?_
      have hr : rs = [.i a6] := hr
      subst hr
      refine h_call (c := c37) rfl (show (0 ≤ (2 : Int) ∧ (2 : Int) ≤ 3) ∧ 0 ≤ (1 : Int) ∧ (1 : Int) ≤ 3 by omega) fun rs hk hr => ?_
      have hr : rs = [.i b9] := hr
      subst hr
      refine h_needR (a6 * b9) rfl (nd1 hA6 hB9) ?_
      refine h_needR (a4 * b1 + a5 * b5 + a6 * b9) rfl (nd3 hA4 hB1 hA5 hB5 hA6 hB9) ?_
      refine h_call (c := c37) rfl (show (0 ≤ (1 : Int) ∧ (1 : Int) ≤ 3) ∧ 0 ≤ (3 : Int) ∧ (3 : Int) ≤ 3 by omega) fun rs hk hr => ?_
      have hr : rs = [.i a7] := hr
      subst hr
      refine h_call (c := c37) rfl (show (0 ≤ (3 : Int) ∧ (3 : Int) ≤ 3) ∧ 0 ≤ (1 : Int) ∧ (1 : Int) ≤ 3 by omega) fun rs hk hr => ?_
      have hr : rs = [.i b13] := hr
      subst hr
      refine h_needR (a7 * b13) rfl (nd1 hA7 hB13) ?_
      refine h_needR (a4 * b1 + a5 * b5 + a6 * b9 + a7 * b13) rfl (nd4 hA4 hB1 hA5 hB5 hA6 hB9 hA7 hB13) ?_
      refine h_call (c := c38) rfl (show bigP (a4 * b1 + a5 * b5 + a6 * b9 + a7 * b13) from big4 hA4 hB1 hA5 hB5 hA6 hB9 hA7 hB13) fun rs hk hr => ?_
      have hr : rs = [.i (ent [a0, a1, a2, a3, a4, a5, a6, a7, a8, a9, a10, a11, a12, a13, a14, a15] [b0, b1, b2, b3, b4, b5, b6, b7, b8, b9, b10, b11, b12, b13, b14, b15] 1 1)] := hr
      subst hr
      refine h_call (c := c37) rfl (show (0 ≤ (1 : Int) ∧ (1 : Int) ≤ 3) ∧ 0 ≤ (0 : Int) ∧ (0 : Int) ≤ 3 by omega) fun rs hk hr => ?_
      have hr : rs = [.i a4] := hr
      subst hr
      refine h_call (c := c37) rfl (show (0 ≤ (0 : Int) ∧ (0 : Int) ≤ 3) ∧ 0 ≤ (2 : Int) ∧ (2 : Int) ≤ 3 by omega) fun rs hk hr => ?_
      have hr : rs = [.i b2] := hr
      subst hr
      refine h_needR (a4 * b2) rfl (nd1 hA4 hB2) ?_
      refine h_call (c := c37) rfl (show (0 ≤ (1 : Int) ∧ (1 : Int) ≤ 3) ∧ 0 ≤ (1 : Int) ∧ (1 : Int) ≤ 3 by omega) fun rs hk hr => ?_
      have hr : rs = [.i a5] := hr
      subst hr
      refine h_call (c := c37) rfl (show (0 ≤ (1 : Int) ∧ (1 : Int) ≤ 3) ∧ 0 ≤ (2 : Int) ∧ (2 : Int) ≤ 3 by omega) fun rs hk hr => ?_
      have hr : rs = [.i b6] := hr
      subst hr
      refine h_needR (a5 * b6) rfl (nd1 hA5 hB6) ?_
      refine h_needR (a4 * b2 + a5 * b6) rfl (nd2 hA4 hB2 hA5 hB6) ?_
      refine h_call (c := c37) rfl (show (0 ≤ (1 : Int) ∧ (1 : Int) ≤ 3) ∧ 0 ≤ (2 : Int) ∧ (2 : Int) ≤ 3 by omega) fun rs hk hr => ?_
      have hr : rs = [.i a6] := hr
      subst hr
      refine h_call (c := c37) rfl (show (0 ≤ (2 : Int) ∧ (2 : Int) ≤ 3) ∧ 0 ≤ (2 : Int) ∧ (2 : Int) ≤ 3 by omega) fun rs hk hr => ?_
      have hr : rs = [.i b10] := hr
      subst hr
      refine h_needR (a6 * b10) rfl (nd1 hA6 hB10) ?_
      refine h_needR (a4 * b2 + a5 * b6 + a6 * b10) rfl (nd3 hA4 hB2 hA5 hB6 hA6 hB10) ?_
      refine h_call (c := c37) rfl (show (0 ≤ (1 : Int) ∧ (1 : Int) ≤ 3) ∧ 0 ≤ (3 : Int) ∧ (3 : Int) ≤ 3 by omega) fun rs hk hr => ?_
      have hr : rs = [.i a7] := hr
      subst hr
      refine h_call (c := c37) rfl (show (0 ≤ (3 : Int) ∧ (3 : Int) ≤ 3) ∧ 0 ≤ (2 : Int) ∧ (2 : Int) ≤ 3 by omega) fun rs hk hr => ?_
      have hr : rs = [.i b14] := hr
      subst hr
      refine h_needR (a7 * b14) rfl (nd1 hA7 hB14) ?_
      refine h_needR (a4 * b2 + a5 * b6 + a6 * b10 + a7 * b14) rfl (nd4 hA4 hB2 hA5 hB6 hA6 hB10 hA7 hB14) ?_
      refine h_call (c := c38) rfl (show bigP (a4 * b2 + a5 * b6 + a6 * b10 + a7 * b14) from big4 hA4 hB2 hA5 hB6 hA6 hB10 hA7 hB14) fun rs hk hr => ?_
      have hr : rs = [.i (ent [a0, a1, a2, a3, a4, a5, a6, a7, a8, a9, a10, a11, a12, a13, a14, a15] [b0, b1, b2, b3, b4, b5, b6, b7, b8, b9, b10, b11, b12, b13, b14, b15] 1 2)] := hr
      subst hr
      refine h_call (c := c37) rfl (show (0 ≤ (1 : Int) ∧ (1 : Int) ≤ 3) ∧ 0 ≤ (0 : Int) ∧ (0 : Int) ≤ 3 by omega) fun rs hk hr => ?_
      have hr : rs = [.i a4] := hr
      subst hr
      refine h_call (c := c37) rfl (show (0 ≤ (0 : Int) ∧ (0 : Int) ≤ 3) ∧ 0 ≤ (3 : Int) ∧ (3 : Int) ≤ 3 by omega) fun rs hk hr => ?_
      have hr : rs = [.i b3] := hr
      subst hr
      refine h_needR (a4 * b3) rfl (nd1 hA4 hB3) ?_
      refine h_call (c := c37) rfl (show (0 ≤ (1 : Int) ∧ (1 : Int) ≤ 3) ∧ 0 ≤ (1 : Int) ∧ (1 : Int) ≤ 3 by omega) fun rs hk hr => ?_
      have hr : rs = [.i a5] := hr
      subst hr
      refine h_call (c := c37) rfl (show (0 ≤ (1 : Int) ∧ (1 : Int) ≤ 3) ∧ 0 ≤ (3 : Int) ∧ (3 : Int) ≤ 3 by omega) fun rs hk hr => ?_
      have hr : rs = [.i b7] := hr
      subst hr
      refine h_needR (a5 * b7) rfl (nd1 hA5 hB7) ?_
      refine h_needR (a4 * b3 + a5 * b7) rfl (nd2 hA4 hB3 hA5 hB7) ?_
      refine h_call (c := c37) rfl (show (0 ≤ (1 : Int) ∧ (1 : Int) ≤ 3) ∧ 0 ≤ (2 : Int) ∧ (2 : Int) ≤ 3 by omega) fun rs hk hr => ?_
      have hr : rs = [.i a6] := hr
      subst hr
      refine h_call (c := c37) rfl (show (0 ≤ (2 : Int) ∧ (2 : Int) ≤ 3) ∧ 0 ≤ (3 : Int) ∧ (3 : Int) ≤ 3 by omega) fun rs hk hr => ?_
      have hr : rs = [.i b11] := hr
      subst hr
      refine h_needR (a6 * b11) rfl (nd1 hA6 hB11) ?_
      refine h_needR (a4 * b3 + a5 * b7 + a6 * b11) rfl (nd3 hA4 hB3 hA5 hB7 hA6 hB11) ?_
      refine h_call (c := c37) rfl (show (0 ≤ (1 : Int) ∧ (1 : Int) ≤ 3) ∧ 0 ≤ (3 : Int) ∧ (3 : Int) ≤ 3 by omega) fun rs hk hr => ?_
      have hr : rs = [.i a7] := hr
      subst hr
      refine h_call (c := c37) rfl (show (0 ≤ (3 : Int) ∧ (3 : Int) ≤ 3) ∧ 0 ≤ (3 : Int) ∧ (3 : Int) ≤ 3 by omega) fun rs hk hr => ?_
      have hr : rs = [.i b15] := hr
      subst hr
      refine h_needR (a7 * b15) rfl (nd1 hA7 hB15) ?_
      refine h_needR (a4 * b3 + a5 * b7 + a6 * b11 + a7 * b15) rfl (nd4 hA4 hB3 hA5 hB7 hA6 hB11 hA7 hB15) ?_
      refine h_call (c := c38) rfl (show bigP (a4 * b3 + a5 * b7 + a6 * b11 + a7 * b15) from big4 hA4 hB3 hA5 hB7 hA6 hB11 hA7 hB15) fun rs hk hr => ?_
      have hr : rs = [.i (ent [a0, a1, a2, a3, a4, a5, a6, a7, a8, a9, a10, a11, a12, a13, a14, a15] [b0, b1, b2, b3, b4, b5, b6, b7, b8, b9, b10, b11, b12, b13, b14, b15] 1 3)] := hr
      subst hr
      refine h_call (c := c37) rfl (show (0 ≤ (2 : Int) ∧ (2 : Int) ≤ 3) ∧ 0 ≤ (0 : Int) ∧ (0 : Int) ≤ 3 by omega) fun rs hk hr => ?_
      have hr : rs = [.i a8] := hr
      subst hr
      refine h_call (c := c37) rfl (show (0 ≤ (0 : Int) ∧ (0 : Int) ≤ 3) ∧ 0 ≤ (0 : Int) ∧ (0 : Int) ≤ 3 by omega) fun rs hk hr => ?_
      have hr : rs = [.i b0] := hr
      subst hr
      refine h_needR (a8 * b0) rfl (nd1 hA8 hB0) ?_
      refine h_call (c := c37) rfl (show (0 ≤ (2 : Int) ∧ (2 : Int) ≤ 3) ∧ 0 ≤ (1 : Int) ∧ (1 : Int) ≤ 3 by omega) fun rs hk hr => ?_
      have hr : rs = [.i a9] := hr
      subst hr
      refine h_call (c := c37) rfl (show (0 ≤ (1 : Int) ∧ (1 : Int) ≤ 3) ∧ 0 ≤ (0 : Int) ∧ (0 : Int) ≤ 3 by omega) fun rs hk hr => ?_
      have hr : rs = [.i b4] := hr
      subst hr
      refine h_needR (a9 * b4) rfl (nd1 hA9 hB4) ?_
      refine h_needR (a8 * b0 + a9 * b4) rfl (nd2 hA8 hB0 hA9 hB4) ?_
      refine h_call (c := c37) rfl (show (0 ≤ (2 : Int) ∧ (2 : Int) ≤ 3) ∧ 0 ≤ (2 : Int) ∧ (2 : Int) ≤ 3 by omega) fun rs hk hr => ?_
      have hr : rs = [.i a10] := hr
      subst hr
      refine h_call (c := c37) rfl (show (0 ≤ (2 : Int) ∧ (2 : Int) ≤ 3) ∧ 0 ≤ (0 : Int) ∧ (0 : Int) ≤ 3 by omega) fun rs hk hr => ?_
      have hr : rs = [.i b8] := hr
      subst hr
      refine h_needR (a10 * b8) rfl (nd1 hA10 hB8) ?_
      refine h_needR (a8 * b0 + a9 * b4 + a10 * b8) rfl (nd3 hA8 hB0 hA9 hB4 hA10 hB8) ?_
      refine h_call (c := c37) rfl (show (0 ≤ (2 : Int) ∧ (2 : Int) ≤ 3) ∧ 0 ≤ (3 : Int) ∧ (3 : Int) ≤ 3 by omega) fun rs hk hr => ?_
      have hr : rs = [.i a11] := hr
      subst hr
      refine h_call (c := c37) rfl (show (0 ≤ (3 : Int) ∧ (3 : Int) ≤ 3) ∧ 0 ≤ (0 : Int) ∧ (0 : Int) ≤ 3 by omega) fun rs hk hr => ?_
      have hr : rs = [.i b12] := hr
      subst hr
      refine h_needR (a11 * b12) rfl (nd1 hA11 hB12) ?_
      refine h_needR (a8 * b0 + a9 * b4 + a10 * b8 + a11 * b12) rfl (nd4 hA8 hB0 hA9 hB4 hA10 hB8 hA11 hB12) ?_
      refine h_call (c := c38) rfl (show bigP (a8 * b0 + a9 * b4 + a10 * b8 + a11 * b12) from big4 hA8 hB0 hA9 hB4 hA10 hB8 hA11 hB12) fun rs hk hr => ?_
      have hr : rs = [.i (ent [a0, a1, a2, a3, a4, a5, a6, a7, a8, a9, a10, a11, a12, a13, a14, a15] [b0, b1, b2, b3, b4, b5, b6, b7, b8, b9, b10, b11, b12, b13, b14, b15] 2 0)] := hr
      subst hr
      refine h_call (c := c37) rfl (show (0 ≤ (2 : Int) ∧ (2 : Int) ≤ 3) ∧ 0 ≤ (0 : Int) ∧ (0 : Int) ≤ 3 by omega) fun rs hk hr => ?_
      have hr : rs = [.i a8] := hr
      subst hr
      refine h_call (c := c37) rfl (show (0 ≤ (0 : Int) ∧ (0 : Int) ≤ 3) ∧ 0 ≤ (1 : Int) ∧ (1 : Int) ≤ 3 by omega) fun rs hk hr => ?_
      have hr : rs = [.i b1] := hr
      subst hr
      refine h_needR (a8 * b1) rfl (nd1 hA8 hB1) ?_
      refine h_call (c := c37) rfl (show (0 ≤ (2 : Int) ∧ (2 : Int) ≤ 3) ∧ 0 ≤ (1 : Int) ∧ (1 : Int) ≤ 3 by omega) fun rs hk hr => ?_
      have hr : rs = [.i a9] := hr
      subst hr
      refine h_call (c := c37) rfl (show (0 ≤ (1 : Int) ∧ (1 : Int) ≤ 3) ∧ 0 ≤ (1 : Int) ∧ (1 : Int) ≤ 3 by omega) fun rs hk hr => ?_
      have hr : rs = [.i b5] := hr
      subst hr
      refine h_needR (a9 * b5) rfl (nd1 hA9 hB5) ?_
      refine h_needR (a8 * b1 + a9 * b5) rfl (nd2 hA8 hB1 hA9 hB5) ?_
      refine h_call (c := c37) rfl (show (0 ≤ (2 : Int) ∧ (2 : Int) ≤ 3) ∧ 0 ≤ (2 : Int) ∧ (2 : Int) ≤ 3 by omega) fun rs hk hr => ?_
      have hr : rs = [.i a10] := hr
      subst hr
      refine h_call (c := c37) rfl (show (0 ≤ (2 : Int) ∧ (2 : Int) ≤ 3) ∧ 0 ≤ (1 : Int) ∧ (1 : Int) ≤ 3 by omega) fun rs hk hr => ?_
      have hr : rs = [.i b9] := hr
      subst hr
      refine h_needR (a10 * b9) rfl (nd1 hA10 hB9) ?_
      refine h_needR (a8 * b1 + a9 * b5 + a10 * b9) rfl (nd3 hA8 hB1 hA9 hB5 hA10 hB9) ?_
      refine h_call (c := c37) rfl (show (0 ≤ (2 : Int) ∧ (2 : Int) ≤ 3) ∧ 0 ≤ (3 : Int) ∧ (3 : Int) ≤ 3 by omega) fun rs hk hr => ?_
      have hr : rs = [.i a11] := hr
      subst hr
      refine h_call (c := c37) rfl (show (0 ≤ (3 : Int) ∧ (3 : Int) ≤ 3) ∧ 0 ≤ (1 : Int) ∧ (1 : Int) ≤ 3 by omega) fun rs hk hr => ?_
      have hr : rs = [.i b13] := hr
      subst hr
      refine h_needR (a11 * b13) rfl (nd1 hA11 hB13) ?_
      refine h_needR (a8 * b1 + a9 * b5 + a10 * b9 + a11 * b13) rfl (nd4 hA8 hB1 hA9 hB5 hA10 hB9 hA11 hB13) ?_
      refine h_call (c := c38) rfl (show bigP (a8 * b1 + a9 * b5 + a10 * b9 + a11 * b13) from big4 hA8 hB1 hA9 hB5 hA10 hB9 hA11 hB13) fun rs hk hr => ?_
      have hr : rs = [.i (ent [a0, a1, a2, a3, a4, a5, a6, a7, a8, a9, a10, a11, a12, a13, a14, a15] [b0, b1, b2, b3, b4, b5, b6, b7, b8, b9, b10, b11, b12, b13, b14, b15] 2 1)] := hr
      subst hr
      refine h_call (c := c37) rfl (show (0 ≤ (2 : Int) ∧ (2 : Int) ≤ 3) ∧ 0 ≤ (0 : Int) ∧ (0 : Int) ≤ 3 by omega) fun rs hk hr => ?_
      have hr : rs = [.i a8] := hr
      subst hr
      refine h_call (c := c37) rfl (show (0 ≤ (0 : Int) ∧ (0 : Int) ≤ 3) ∧ 0 ≤ (2 : Int) ∧ (2 : Int) ≤ 3 by omega) fun rs hk hr => ?_
      have hr : rs = [.i b2] := hr
      subst hr
      refine h_needR (a8 * b2) rfl (nd1 hA8 hB2) ?_
      refine h_call (c := c37) rfl (show (0 ≤ (2 : Int) ∧ (2 : Int) ≤ 3) ∧ 0 ≤ (1 : Int) ∧ (1 : Int) ≤ 3 by omega) fun rs hk hr => ?_
      have hr : rs = [.i a9] := hr
      subst hr
      refine h_call (c := c37) rfl (show (0 ≤ (1 : Int) ∧ (1 : Int) ≤ 3) ∧ 0 ≤ (2 : Int) ∧ (2 : Int) ≤ 3 by omega) fun rs hk hr => ?_
      have hr : rs = [.i b6] := hr
      subst hr
      refine h_needR (a9 * b6) rfl (nd1 hA9 hB6) ?_
      refine h_needR (a8 * b2 + a9 * b6) rfl (nd2 hA8 hB2 hA9 hB6) ?_
      refine h_call (c := c37) rfl (show (0 ≤ (2 : Int) ∧ (2 : Int) ≤ 3) ∧ 0 ≤ (2 : Int) ∧ (2 : Int) ≤ 3 by omega) fun rs hk hr => ?_
      have hr : rs = [.i a10] := hr
      subst hr
      refine h_call (c := c37) rfl (show (0 ≤ (2 : Int) ∧ (2 : Int) ≤ 3) ∧ 0 ≤ (2 : Int) ∧ (2 : Int) ≤ 3 by omega) fun rs hk hr => ?_
      have hr : rs = [.i b10] := hr
      subst hr
      refine h_needR (a10 * b10) rfl (nd1 hA10 hB10) ?_
      refine h_needR (a8 * b2 + a9 * b6 + a10 * b10) rfl (nd3 hA8 hB2 hA9 hB6 hA10 hB10) ?_
      refine h_call (c := c37) rfl (show (0 ≤ (2 : Int) ∧ (2 : Int) ≤ 3) ∧ 0 ≤ (3 : Int) ∧ (3 : Int) ≤ 3 by omega) fun rs hk hr => ?_
      have hr : rs = [.i a11] := hr
      subst hr
      refine h_call (c := c37) rfl (show (0 ≤ (3 : Int) ∧ (3 : Int) ≤ 3) ∧ 0 ≤ (2 : Int) ∧ (2 : Int) ≤ 3 by omega) fun rs hk hr => ?_
      have hr : rs = [.i b14] := hr
      subst hr
      refine h_needR (a11 * b14) rfl (nd1 hA11 hB14) ?_
      refine h_needR (a8 * b2 + a9 * b6 + a10 * b10 + a11 * b14) rfl (nd4 hA8 hB2 hA9 hB6 hA10 hB10 hA11 hB14) ?_
      refine h_call (c := c38) rfl (show bigP (a8 * b2 + a9 * b6 + a10 * b10 + a11 * b14) from big4 hA8 hB2 hA9 hB6 hA10 hB10 hA11 hB14) fun rs hk hr => ?_
      have hr : rs = [.i (ent [a0, a1, a2, a3, a4, a5, a6, a7, a8, a9, a10, a11, a12, a13, a14, a15] [b0, b1, b2, b3, b4, b5, b6, b7, b8, b9, b10, b11, b12, b13, b14, b15] 2 2)] := hr
      subst hr
      refine h_call (c := c37) rfl (show (0 ≤ (2 : Int) ∧ (2 : Int) ≤ 3) ∧ 0 ≤ (0 : Int) ∧ (0 : Int) ≤ 3 by omega) fun rs hk hr => ?_
      have hr : rs = [.i a8] := hr
      subst hr
      refine h_call (c := c37) rfl (show (0 ≤ (0 : Int) ∧ (0 : Int) ≤ 3) ∧ 0 ≤ (3 : Int) ∧ (3 : Int) ≤ 3 by omega) fun rs hk hr => ?_
      have hr : rs = [.i b3] := hr
      subst hr
      refine h_needR (a8 * b3) rfl (nd1 hA8 hB3) ?_
      refine h_call (c := c37) rfl (show (0 ≤ (2 : Int) ∧ (2 : Int) ≤ 3) ∧ 0 ≤ (1 : Int) ∧ (1 : Int) ≤ 3 by omega) fun rs hk hr => ?_
      have hr : rs = [.i a9] := hr
      subst hr
      refine h_call (c := c37) rfl (show (0 ≤ (1 : Int) ∧ (1 : Int) ≤ 3) ∧ 0 ≤ (3 : Int) ∧ (3 : Int) ≤ 3 by omega) fun rs hk hr => ?_
      have hr : rs = [.i b7] := hr
      subst hr
      refine h_needR (a9 * b7) rfl (nd1 hA9 hB7) ?_
      refine h_needR (a8 * b3 + a9 * b7) rfl (nd2 hA8 hB3 hA9 hB7) ?_
      refine h_call (c := c37) rfl (show (0 ≤ (2 : Int) ∧ (2 : Int) ≤ 3) ∧ 0 ≤ (2 : Int) ∧ (2 : Int) ≤ 3 by omega) fun rs hk hr => ?_
      have hr : rs = [.i a10] := hr
      subst hr
      refine h_call (c := c37) rfl (show (0 ≤ (2 : Int) ∧ (2 : Int) ≤ 3) ∧ 0 ≤ (3 : Int) ∧ (3 : Int) ≤ 3 by omega) fun rs hk hr => ?_
      have hr : rs = [.i b11] := hr
      subst hr
      refine h_needR (a10 * b11) rfl (nd1 hA10 hB11) ?_
      refine h_needR (a8 * b3 + a9 * b7 + a10 * b11) rfl (nd3 hA8 hB3 hA9 hB7 hA10 hB11) ?_
      refine h_call (c := c37) rfl (show (0 ≤ (2 : Int) ∧ (2 : Int) ≤ 3) ∧ 0 ≤ (3 : Int) ∧ (3 : Int) ≤ 3 by omega) fun rs hk hr => ?_
      have hr : rs = [.i a11] := hr
      subst hr
      refine h_call (c := c37) rfl (show (0 ≤ (3 : Int) ∧ (3 : Int) ≤ 3) ∧ 0 ≤ (3 : Int) ∧ (3 : Int) ≤ 3 by omega) fun rs hk hr => ?_
      have hr : rs = [.i b15] := hr
      subst hr
      refine h_needR (a11 * b15) rfl (nd1 hA11 hB15) ?_
      refine h_needR (a8 * b3 + a9 * b7 + a10 * b11 + a11 * b15) rfl (nd4 hA8 hB3 hA9 hB7 hA10 hB11 hA11 hB15) ?_
      refine h_call (c := c38) rfl (show bigP (a8 * b3 + a9 * b7 + a10 * b11 + a11 * b15) from big4 hA8 hB3 hA9 hB7 hA10 hB11 hA11 hB15) fun rs hk hr => ?_
      have hr : rs = [.i (ent [a0, a1, a2, a3, a4, a5, a6, a7, a8, a9, a10, a11, a12, a13, a14, a15] [b0, b1, b2, b3, b4, b5, b6, b7, b8, b9, b10, b11, b12, b13, b14, b15] 2 3)] := hr
      subst hr
      refine h_call (c := c37) rfl (show (0 ≤ (3 : Int) ∧ (3 : Int) ≤ 3) ∧ 0 ≤ (0 : Int) ∧ (0 : Int) ≤ 3 by omega) fun rs hk hr => ?_
      have hr : rs = [.i a12] := hr
      subst hr
      refine h_call (c := c37) rfl (show (0 ≤ (0 : Int) ∧ (0 : Int) ≤ 3) ∧ 0 ≤ (0 : Int) ∧ (0 : Int) ≤ 3 by omega) fun rs hk hr => ?_
      have hr : rs = [.i b0] := hr
      subst hr
      refine h_needR (a12 * b0) rfl (nd1 hA12 hB0) ?_
      refine h_call (c := c37) rfl (show (0 ≤ (3 : Int) ∧ (3 : Int) ≤ 3) ∧ 0 ≤ (1 : Int) ∧ (1 : Int) ≤ 3 by omega) fun rs hk hr => ?_
      have hr : rs = [.i a13] := hr
      subst hr
      refine h_call (c := c37) rfl (show (0 ≤ (1 : Int) ∧ (1 : Int) ≤ 3) ∧ 0 ≤ (0 : Int) ∧ (0 : Int) ≤ 3 by omega) fun rs hk hr => ?_
      have hr : rs = [.i b4] := hr
      subst hr
      refine h_needR (a13 * b4) rfl (nd1 hA13 hB4) ?_
      refine h_needR (a12 * b0 + a13 * b4) rfl (nd2 hA12 hB0 hA13 hB4) ?_
      refine h_call (c := c37) rfl (show (0 ≤ (3 : Int) ∧ (3 : Int) ≤ 3) ∧ 0 ≤ (2 : Int) ∧ (2 : Int) ≤ 3 by omega) fun rs hk hr => ?_
      have hr : rs = [.i a14] := hr
      subst hr
      refine h_call (c := c37) rfl (show (0 ≤ (2 : Int) ∧ (2 : Int) ≤ 3) ∧ 0 ≤ (0 : Int) ∧ (0 : Int) ≤ 3 by omega) fun rs hk hr => ?_
      have hr : rs = [.i b8] := hr
      subst hr
      refine h_needR (a14 * b8) rfl (nd1 hA14 hB8) ?_
      refine h_needR (a12 * b0 + a13 * b4 + a14 * b8) rfl (nd3 hA12 hB0 hA13 hB4 hA14 hB8) ?_
      refine h_call (c := c37) rfl (show (0 ≤ (3 : Int) ∧ (3 : Int) ≤ 3) ∧ 0 ≤ (3 : Int) ∧ (3 : Int) ≤ 3 by omega) fun rs hk hr => ?_
      have hr : rs = [.i a15] := hr
      subst hr
      refine h_call (c := c37) rfl (show (0 ≤ (3 : Int) ∧ (3 : Int) ≤ 3) ∧ 0 ≤ (0 : Int) ∧ (0 : Int) ≤ 3 by omega) fun rs hk hr => ?_
      have hr : rs = [.i b12] := hr
      subst hr
      refine h_needR (a15 * b12) rfl (nd1 hA15 hB12) ?_
      refine h_needR (a12 * b0 + a13 * b4 + a14 * b8 + a15 * b12) rfl (nd4 hA12 hB0 hA13 hB4 hA14 hB8 hA15 hB12) ?_
      refine h_call (c := c38) rfl (show bigP (a12 * b0 + a13 * b4 + a14 * b8 + a15 * b12) from big4 hA12 hB0 hA13 hB4 hA14 hB8 hA15 hB12) fun rs hk hr => ?_
      have hr : rs = [.i (ent [a0, a1, a2, a3, a4, a5, a6, a7, a8, a9, a10, a11, a12, a13, a14, a15] [b0, b1, b2, b3, b4, b5, b6, b7, b8, b9, b10, b11, b12, b13, b14, b15] 3 0)] := hr
      subst hr
      refine h_call (c := c37) rfl (show (0 ≤ (3 : Int) ∧ (3 : Int) ≤ 3) ∧ 0 ≤ (0 : Int) ∧ (0 : Int) ≤ 3 by omega) fun rs hk hr => ?_
      have hr : rs = [.i a12] := hr
      subst hr
      refine h_call (c := c37) rfl (show (0 ≤ (0 : Int) ∧ (0 : Int) ≤ 3) ∧ 0 ≤ (1 : Int) ∧ (1 : Int) ≤ 3 by omega) fun rs hk hr => ?_
      have hr : rs = [.i b1] := hr
      subst hr
      refine h_needR (a12 * b1) rfl (nd1 hA12 hB1) ?_
      refine h_call (c := c37) rfl (show (0 ≤ (3 : Int) ∧ (3 : Int) ≤ 3) ∧ 0 ≤ (1 : Int) ∧ (1 : Int) ≤ 3 by omega) fun rs hk hr => ?_
      have hr : rs = [.i a13] := hr
      subst hr
      refine h_call (c := c37) rfl (show (0 ≤ (1 : Int) ∧ (1 : Int) ≤ 3) ∧ 0 ≤ (1 : Int) ∧ (1 : Int) ≤ 3 by omega) fun rs hk hr => ?_
      have hr : rs = [.i b5] := hr
      subst hr
      refine h_needR (a13 * b5) rfl (nd1 hA13 hB5) ?_
      refine h_needR (a12 * b1 + a13 * b5) rfl (nd2 hA12 hB1 hA13 hB5) ?_
      refine h_call (c := c37) rfl (show (0 ≤ (3 : Int) ∧ (3 : Int) ≤ 3) ∧ 0 ≤ (2 : Int) ∧ (2 : Int) ≤ 3 by omega) fun rs hk hr => ?_
      have hr : rs = [.i a14] := hr
      subst hr
      refine h_call (c := c37) rfl (show (0 ≤ (2 : Int) ∧ (2 : Int) ≤ 3) ∧ 0 ≤ (1 : Int) ∧ (1 : Int) ≤ 3 by omega) fun rs hk hr => ?_
      have hr : rs = [.i b9] := hr
      subst hr
      refine h_needR (a14 * b9) rfl (nd1 hA14 hB9) ?_
      refine h_needR (a12 * b1 + a13 * b5 + a14 * b9) rfl (nd3 hA12 hB1 hA13 hB5 hA14 hB9) ?_
      refine h_call (c := c37) rfl (show (0 ≤ (3 : Int) ∧ (3 : Int) ≤ 3) ∧ 0 ≤ (3 : Int) ∧ (3 : Int) ≤ 3 by omega) fun rs hk hr => ?_
      have hr : rs = [.i a15] := hr
      subst hr
      refine h_call (c := c37) rfl (show (0 ≤ (3 : Int) ∧ (3 : Int) ≤ 3) ∧ 0 ≤ (1 : Int) ∧ (1 : Int) ≤ 3 by omega) fun rs hk hr => ?_
      have hr : rs = [.i b13] := hr
      subst hr
      refine h_needR (a15 * b13) rfl (nd1 hA15 hB13) ?_
      refine h_needR (a12 * b1 + a13 * b5 + a14 * b9 + a15 * b13) rfl (nd4 hA12 hB1 hA13 hB5 hA14 hB9 hA15 hB13) ?_
      refine h_call (c := c38) rfl (show bigP (a12 * b1 + a13 * b5 + a14 * b9 + a15 * b13) from big4 hA12 hB1 hA13 hB5 hA14 hB9 hA15 hB13) fun rs hk hr => ?_
      have hr : rs = [.i (ent [a0, a1, a2, a3, a4, a5, a6, a7, a8, a9, a10, a11, a12, a13, a14, a15] [b0, b1, b2, b3, b4, b5, b6, b7, b8, b9, b10, b11, b12, b13, b14, b15] 3 1)] := hr
      subst hr
      refine h_call (c := c37) rfl (show (0 ≤ (3 : Int) ∧ (3 : Int) ≤ 3) ∧ 0 ≤ (0 : Int) ∧ (0 : Int) ≤ 3 by omega) fun rs hk hr => ?_
      have hr : rs = [.i a12] := hr
      subst hr
      refine h_call (c := c37) rfl (show (0 ≤ (0 : Int) ∧ (0 : Int) ≤ 3) ∧ 0 ≤ (2 : Int) ∧ (2 : Int) ≤ 3 by omega) fun rs hk hr => ?_
      have hr : rs = [.i b2] := hr
      subst hr
      refine h_needR (a12 * b2) rfl (nd1 hA12 hB2) ?_
      refine h_call (c := c37) rfl (show (0 ≤ (3 : Int) ∧ (3 : Int) ≤ 3) ∧ 0 ≤ (1 : Int) ∧ (1 : Int) ≤ 3 by omega) fun rs hk hr => ?_
      have hr : rs = [.i a13] := hr
      subst hr
      refine h_call (c := c37) rfl (show (0 ≤ (1 : Int) ∧ (1 : Int) ≤ 3) ∧ 0 ≤ (2 : Int) ∧ (2 : Int) ≤ 3 by omega) fun rs hk hr => ?_
      have hr : rs = [.i b6] := hr
      subst hr
      refine h_needR (a13 * b6) rfl (nd1 hA13 hB6) ?_
      refine h_needR (a12 * b2 + a13 * b6) rfl (nd2 hA12 hB2 hA13 hB6) ?_
      refine h_call (c := c37) rfl (show (0 ≤ (3 : Int) ∧ (3 : Int) ≤ 3) ∧ 0 ≤ (2 : Int) ∧ (2 : Int) ≤ 3 by omega) fun rs hk hr => ?_
      have hr : rs = [.i a14] := hr
      subst hr
      refine h_call (c := c37) rfl (show (0 ≤ (2 : Int) ∧ (2 : Int) ≤ 3) ∧ 0 ≤ (2 : Int) ∧ (2 : Int) ≤ 3 by omega) fun rs hk hr => ?_
      have hr : rs = [.i b10] := hr
      subst hr
      refine h_needR (a14 * b10) rfl (nd1 hA14 hB10) ?_
      refine h_needR (a12 * b2 + a13 * b6 + a14 * b10) rfl (nd3 hA12 hB2 hA13 hB6 hA14 hB10) ?_
      refine h_call (c := c37) rfl (show (0 ≤ (3 : Int) ∧ (3 : Int) ≤ 3) ∧ 0 ≤ (3 : Int) ∧ (3 : Int) ≤ 3 by omega) fun rs hk hr => ?_
      have hr : rs = [.i a15] := hr
      subst hr
      refine h_call (c := c37) rfl (show (0 ≤ (3 : Int) ∧ (3 : Int) ≤ 3) ∧ 0 ≤ (2 : Int) ∧ (2 : Int) ≤ 3 by omega) fun rs hk hr => ?_
      have hr : rs = [.i b14] := hr
      subst hr
      refine h_needR (a15 * b14) rfl (nd1 hA15 hB14) ?_
      refine h_needR (a12 * b2 + a13 * b6 + a14 * b10 + a15 * b14) rfl (nd4 hA12 hB2 hA13 hB6 hA14 hB10 hA15 hB14) ?_
      refine h_call (c := c38) rfl (show bigP (a12 * b2 + a13 * b6 + a14 * b10 + a15 * b14) from big4 hA12 hB2 hA13 hB6 hA14 hB10 hA15 hB14) fun rs hk hr => ?_
      have hr : rs = [.i (ent [a0, a1, a2, a3, a4, a5, a6, a7, a8, a9, a10, a11, a12, a13, a14, a15] [b0, b1, b2, b3, b4, b5, b6, b7, b8, b9, b10, b11, b12, b13, b14, b15] 3 2)] := hr
      subst hr
      refine h_call (c := c37) rfl (show (0 ≤ (3 : Int) ∧ (3 : Int) ≤ 3) ∧ 0 ≤ (0 : Int) ∧ (0 : Int) ≤ 3 by omega) fun rs hk hr => ?_
      have hr : rs = [.i a12] := hr
      subst hr
      refine h_call (c := c37) rfl (show (0 ≤ (0 : Int) ∧ (0 : Int) ≤ 3) ∧ 0 ≤ (3 : Int) ∧ (3 : Int) ≤ 3 by omega) fun rs hk hr => ?_
      have hr : rs = [.i b3] := hr
      subst hr
      refine h_needR (a12 * b3) rfl (nd1 hA12 hB3) ?_
      refine h_call (c := c37) rfl (show (0 ≤ (3 : Int) ∧ (3 : Int) ≤ 3) ∧ 0 ≤ (1 : Int) ∧ (1 : Int) ≤ 3 by omega) fun rs hk hr => ?_
      have hr : rs = [.i a13] := hr
      subst hr
      refine h_call (c := c37) rfl (show (0 ≤ (1 : Int) ∧ (1 : Int) ≤ 3) ∧ 0 ≤ (3 : Int) ∧ (3 : Int) ≤ 3 by omega) fun rs hk hr => ?_
      have hr : rs = [.i b7] := hr
      subst hr
      refine h_needR (a13 * b7) rfl (nd1 hA13 hB7) ?_
      refine h_needR (a12 * b3 + a13 * b7) rfl (nd2 hA12 hB3 hA13 hB7) ?_
      refine h_call (c := c37) rfl (show (0 ≤ (3 : Int) ∧ (3 : Int) ≤ 3) ∧ 0 ≤ (2 : Int) ∧ (2 : Int) ≤ 3 by omega) fun rs hk hr => ?_
      have hr : rs = [.i a14] := hr
      subst hr
      refine h_call (c := c37) rfl (show (0 ≤ (2 : Int) ∧ (2 : Int) ≤ 3) ∧ 0 ≤ (3 : Int) ∧ (3 : Int) ≤ 3 by omega) fun rs hk hr => ?_
      have hr : rs = [.i b11] := hr
      subst hr
      refine h_needR (a14 * b11) rfl (nd1 hA14 hB11) ?_
      refine h_needR (a12 * b3 + a13 * b7 + a14 * b11) rfl (nd3 hA12 hB3 hA13 hB7 hA14 hB11) ?_
      refine h_call (c := c37) rfl (show (0 ≤ (3 : Int) ∧ (3 : Int) ≤ 3) ∧ 0 ≤ (3 : Int) ∧ (3 : Int) ≤ 3 by omega) fun rs hk hr => ?_
      have hr : rs = [.i a15] := hr
      subst hr
      refine h_call (c := c37) rfl (show (0 ≤ (3 : Int) ∧ (3 : Int) ≤ 3) ∧ 0 ≤ (3 : Int) ∧ (3 : Int) ≤ 3 by omega) fun rs hk hr => ?_
      have hr : rs = [.i b15] := hr
      subst hr
      refine h_needR (a15 * b15) rfl (nd1 hA15 hB15) ?_
      refine h_needR (a12 * b3 + a13 * b7 + a14 * b11 + a15 * b15) rfl (nd4 hA12 hB3 hA13 hB7 hA14 hB11 hA15 hB15) ?_
      refine h_call (c := c38) rfl (show bigP (a12 * b3 + a13 * b7 + a14 * b11 + a15 * b15) from big4 hA12 hB3 hA13 hB7 hA14 hB11 hA15 hB15) fun rs hk hr => ?_
      have hr : rs = [.i (ent [a0, a1, a2, a3, a4, a5, a6, a7, a8, a9, a10, a11, a12, a13, a14, a15] [b0, b1, b2, b3, b4, b5, b6, b7, b8, b9, b10, b11, b12, b13, b14, b15] 3 3)] := hr
      subst hr
      refine h_call (c := cRight sg28) rfl trivial fun rs hk hr => ?_
      have hr : rs = [.b (decide (rightP (prodL [a0, a1, a2, a3, a4, a5, a6, a7, a8, a9, a10, a11, a12, a13, a14, a15] [b0, b1, b2, b3, b4, b5, b6, b7, b8, b9, b10, b11, b12, b13, b14, b15])))] := hr
      subst hr
      refine h_ite (fun g => ?_) (fun g => ?_)
      · have g : (!decide (rightP (prodL [a0, a1, a2, a3, a4, a5, a6, a7, a8, a9, a10, a11, a12, a13, a14, a15] [b0, b1, b2, b3, b4, b5, b6, b7, b8, b9, b10, b11, b12, b13, b14, b15]))) = true := g
        rw [Bool.not_eq_true', decide_eq_false_iff_not] at g
        show ([.i 0, .i 0, .i 0, .i 0, .i 0, .i 0, .i 0, .i 0, .i 0, .i 0, .i 0, .i 0, .i 0, .i 0, .i 0, .i 0, .i 4] : List DV) = [.i (mulI [a0, a1, a2, a3, a4, a5, a6, a7, a8, a9, a10, a11, a12, a13, a14, a15] [b0, b1, b2, b3, b4, b5, b6, b7, b8, b9, b10, b11, b12, b13, b14, b15] 0), .i (mulI [a0, a1, a2, a3, a4, a5, a6, a7, a8, a9, a10, a11, a12, a13, a14, a15] [b0, b1, b2, b3, b4, b5, b6, b7, b8, b9, b10, b11, b12, b13, b14, b15] 1), .i (mulI [a0, a1, a2, a3, a4, a5, a6, a7, a8, a9, a10, a11, a12, a13, a14, a15] [b0, b1, b2, b3, b4, b5, b6, b7, b8, b9, b10, b11, b12, b13, b14, b15] 2), .i (mulI [a0, a1, a2, a3, a4, a5, a6, a7, a8, a9, a10, a11, a12, a13, a14, a15] [b0, b1, b2, b3, b4, b5, b6, b7, b8, b9, b10, b11, b12, b13, b14, b15] 3), .i (mulI [a0, a1, a2, a3, a4, a5, a6, a7, a8, a9, a10, a11, a12, a13, a14, a15] [b0, b1, b2, b3, b4, b5, b6, b7, b8, b9, b10, b11, b12, b13, b14, b15] 4), .i (mulI [a0, a1, a2, a3, a4, a5, a6, a7, a8, a9, a10, a11, a12, a13, a14, a15] [b0, b1, b2, b3, b4, b5, b6, b7, b8, b9, b10, b11, b12, b13, b14, b15] 5), .i (mulI [a0, a1, a2, a3, a4, a5, a6, a7, a8, a9, a10, a11, a12, a13, a14, a15] [b0, b1, b2, b3, b4, b5, b6, b7, b8, b9, b10, b11, b12, b13, b14, b15] 6), .i (mulI [a0, a1, a2, a3, a4, a5, a6, a7, a8, a9, a10, a11, a12, a13, a14, a15] [b0, b1, b2, b3, b4, b5, b6, b7, b8, b9, b10, b11, b12, b13, b14, b15] 7), .i (mulI [a0, a1, a2, a3, a4, a5, a6, a7, a8, a9, a10, a11, a12, a13, a14, a15] [b0, b1, b2, b3, b4, b5, b6, b7, b8, b9, b10, b11, b12, b13, b14, b15] 8), .i (mulI [a0, a1, a2, a3, a4, a5, a6, a7, a8, a9, a10, a11, a12, a13, a14, a15] [b0, b1, b2, b3, b4, b5, b6, b7, b8, b9, b10, b11, b12, b13, b14, b15] 9), .i (mulI [a0, a1, a2, a3, a4, a5, a6, a7, a8, a9, a10, a11, a12, a13, a14, a15] [b0, b1, b2, b3, b4, b5, b6, b7, b8, b9, b10, b11, b12, b13, b14, b15] 10), .i (mulI [a0, a1, a2, a3, a4, a5, a6, a7, a8, a9, a10, a11, a12, a13, a14, a15] [b0, b1, b2, b3, b4, b5, b6, b7, b8, b9, b10, b11, b12, b13, b14, b15] 11), .i (mulI [a0, a1, a2, a3, a4, a5, a6, a7, a8, a9, a10, a11, a12, a13, a14, a15] [b0, b1, b2, b3, b4, b5, b6, b7, b8, b9, b10, b11, b12, b13, b14, b15] 12), .i (mulI [a0, a1, a2, a3, a4, a5, a6, a7, a8, a9, a10, a11, a12, a13, a14, a15] [b0, b1, b2, b3, b4, b5, b6, b7, b8, b9, b10, b11, b12, b13, b14, b15] 13), .i (mulI [a0, a1, a2, a3, a4, a5, a6, a7, a8, a9, a10, a11, a12, a13, a14, a15] [b0, b1, b2, b3, b4, b5, b6, b7, b8, b9, b10, b11, b12, b13, b14, b15] 14), .i (mulI [a0, a1, a2, a3, a4, a5, a6, a7, a8, a9, a10, a11, a12, a13, a14, a15] [b0, b1, b2, b3, b4, b5, b6, b7, b8, b9, b10, b11, b12, b13, b14, b15] 15), .i (mulE [a0, a1, a2, a3, a4, a5, a6, a7, a8, a9, a10, a11, a12, a13, a14, a15] [b0, b1, b2, b3, b4, b5, b6, b7, b8, b9, b10, b11, b12, b13, b14, b15])]
        rw [(mul_far hA hB g).2]
        simp only [(mul_far hA hB g).1]
      · have g : (!decide (rightP (prodL [a0, a1, a2, a3, a4, a5, a6, a7, a8, a9, a10, a11, a12, a13, a14, a15] [b0, b1, b2, b3, b4, b5, b6, b7, b8, b9, b10, b11, b12, b13, b14, b15]))) = false := g
        rw [Bool.not_eq_false', decide_eq_true_eq] at g
        show ([.i (ent [a0, a1, a2, a3, a4, a5, a6, a7, a8, a9, a10, a11, a12, a13, a14, a15] [b0, b1, b2, b3, b4, b5, b6, b7, b8, b9, b10, b11, b12, b13, b14, b15] 0 0), .i (ent [a0, a1, a2, a3, a4, a5, a6, a7, a8, a9, a10, a11, a12, a13, a14, a15] [b0, b1, b2, b3, b4, b5, b6, b7, b8, b9, b10, b11, b12, b13, b14, b15] 0 1), .i (ent [a0, a1, a2, a3, a4, a5, a6, a7, a8, a9, a10, a11, a12, a13, a14, a15] [b0, b1, b2, b3, b4, b5, b6, b7, b8, b9, b10, b11, b12, b13, b14, b15] 0 2), .i (ent [a0, a1, a2, a3, a4, a5, a6, a7, a8, a9, a10, a11, a12, a13, a14, a15] [b0, b1, b2, b3, b4, b5, b6, b7, b8, b9, b10, b11, b12, b13, b14, b15] 0 3), .i (ent [a0, a1, a2, a3, a4, a5, a6, a7, a8, a9, a10, a11, a12, a13, a14, a15] [b0, b1, b2, b3, b4, b5, b6, b7, b8, b9, b10, b11, b12, b13, b14, b15] 1 0), .i (ent [a0, a1, a2, a3, a4, a5, a6, a7, a8, a9, a10, a11, a12, a13, a14, a15] [b0, b1, b2, b3, b4, b5, b6, b7, b8, b9, b10, b11, b12, b13, b14, b15] 1 1), .i (ent [a0, a1, a2, a3, a4, a5, a6, a7, a8, a9, a10, a11, a12, a13, a14, a15] [b0, b1, b2, b3, b4, b5, b6, b7, b8, b9, b10, b11, b12, b13, b14, b15] 1 2), .i (ent [a0, a1, a2, a3, a4, a5, a6, a7, a8, a9, a10, a11, a12, a13, a14, a15] [b0, b1, b2, b3, b4, b5, b6, b7, b8, b9, b10, b11, b12, b13, b14, b15] 1 3), .i (ent [a0, a1, a2, a3, a4, a5, a6, a7, a8, a9, a10, a11, a12, a13, a14, a15] [b0, b1, b2, b3, b4, b5, b6, b7, b8, b9, b10, b11, b12, b13, b14, b15] 2 0), .i (ent [a0, a1, a2, a3, a4, a5, a6, a7, a8, a9, a10, a11, a12, a13, a14, a15] [b0, b1, b2, b3, b4, b5, b6, b7, b8, b9, b10, b11, b12, b13, b14, b15] 2 1), .i (ent [a0, a1, a2, a3, a4, a5, a6, a7, a8, a9, a10, a11, a12, a13, a14, a15] [b0, b1, b2, b3, b4, b5, b6, b7, b8, b9, b10, b11, b12, b13, b14, b15] 2 2), .i (ent [a0, a1, a2, a3, a4, a5, a6, a7, a8, a9, a10, a11, a12, a13, a14, a15] [b0, b1, b2, b3, b4, b5, b6, b7, b8, b9, b10, b11, b12, b13, b14, b15] 2 3), .i (ent [a0, a1, a2, a3, a4, a5, a6, a7, a8, a9, a10, a11, a12, a13, a14, a15] [b0, b1, b2, b3, b4, b5, b6, b7, b8, b9, b10, b11, b12, b13, b14, b15] 3 0), .i (ent [a0, a1, a2, a3, a4, a5, a6, a7, a8, a9, a10, a11, a12, a13, a14, a15] [b0, b1, b2, b3, b4, b5, b6, b7, b8, b9, b10, b11, b12, b13, b14, b15] 3 1), .i (ent [a0, a1, a2, a3, a4, a5, a6, a7, a8, a9, a10, a11, a12, a13, a14, a15] [b0, b1, b2, b3, b4, b5, b6, b7, b8, b9, b10, b11, b12, b13, b14, b15] 3 2), .i (ent [a0, a1, a2, a3, a4, a5, a6, a7, a8, a9, a10, a11, a12, a13, a14, a15] [b0, b1, b2, b3, b4, b5, b6, b7, b8, b9, b10, b11, b12, b13, b14, b15] 3 3), .i 0] : List DV) = [.i (mulI [a0, a1, a2, a3, a4, a5, a6, a7, a8, a9, a10, a11, a12, a13, a14, a15] [b0, b1, b2, b3, b4, b5, b6, b7, b8, b9, b10, b11, b12, b13, b14, b15] 0), .i (mulI [a0, a1, a2, a3, a4, a5, a6, a7, a8, a9, a10, a11, a12, a13, a14, a15] [b0, b1, b2, b3, b4, b5, b6, b7, b8, b9, b10, b11, b12, b13, b14, b15] 1), .i (mulI [a0, a1, a2, a3, a4, a5, a6, a7, a8, a9, a10, a11, a12, a13, a14, a15] [b0, b1, b2, b3, b4, b5, b6, b7, b8, b9, b10, b11, b12, b13, b14, b15] 2), .i (mulI [a0, a1, a2, a3, a4, a5, a6, a7, a8, a9, a10, a11, a12, a13, a14, a15] [b0, b1, b2, b3, b4, b5, b6, b7, b8, b9, b10, b11, b12, b13, b14, b15] 3), .i (mulI [a0, a1, a2, a3, a4, a5, a6, a7, a8, a9, a10, a11, a12, a13, a14, a15] [b0, b1, b2, b3, b4, b5, b6, b7, b8, b9, b10, b11, b12, b13, b14, b15] 4), .i (mulI [a0, a1, a2, a3, a4, a5, a6, a7, a8, a9, a10, a11, a12, a13, a14, a15] [b0, b1, b2, b3, b4, b5, b6, b7, b8, b9, b10, b11, b12, b13, b14, b15] 5), .i (mulI [a0, a1, a2, a3, a4, a5, a6, a7, a8, a9, a10, a11, a12, a13, a14, a15] [b0, b1, b2, b3, b4, b5, b6, b7, b8, b9, b10, b11, b12, b13, b14, b15] 6), .i (mulI [a0, a1, a2, a3, a4, a5, a6, a7, a8, a9, a10, a11, a12, a13, a14, a15] [b0, b1, b2, b3, b4, b5, b6, b7, b8, b9, b10, b11, b12, b13, b14, b15] 7), .i (mulI [a0, a1, a2, a3, a4, a5, a6, a7, a8, a9, a10, a11, a12, a13, a14, a15] [b0, b1, b2, b3, b4, b5, b6, b7, b8, b9, b10, b11, b12, b13, b14, b15] 8), .i (mulI [a0, a1, a2, a3, a4, a5, a6, a7, a8, a9, a10, a11, a12, a13, a14, a15] [b0, b1, b2, b3, b4, b5, b6, b7, b8, b9, b10, b11, b12, b13, b14, b15] 9), .i (mulI [a0, a1, a2, a3, a4, a5, a6, a7, a8, a9, a10, a11, a12, a13, a14, a15] [b0, b1, b2, b3, b4, b5, b6, b7, b8, b9, b10, b11, b12, b13, b14, b15] 10), .i (mulI [a0, a1, a2, a3, a4, a5, a6, a7, a8, a9, a10, a11, a12, a13, a14, a15] [b0, b1, b2, b3, b4, b5, b6, b7, b8, b9, b10, b11, b12, b13, b14, b15] 11), .i (mulI [a0, a1, a2, a3, a4, a5, a6, a7, a8, a9, a10, a11, a12, a13, a14, a15] [b0, b1, b2, b3, b4, b5, b6, b7, b8, b9, b10, b11, b12, b13, b14, b15] 12), .i (mulI [a0, a1, a2, a3, a4, a5, a6, a7, a8, a9, a10, a11, a12, a13, a14, a15] [b0, b1, b2, b3, b4, b5, b6, b7, b8, b9, b10, b11, b12, b13, b14, b15] 13), .i (mulI [a0, a1, a2, a3, a4, a5, a6, a7, a8, a9, a10, a11, a12, a13, a14, a15] [b0, b1, b2, b3, b4, b5, b6, b7, b8, b9, b10, b11, b12, b13, b14, b15] 14), .i (mulI [a0, a1, a2, a3, a4, a5, a6, a7, a8, a9, a10, a11, a12, a13, a14, a15] [b0, b1, b2, b3, b4, b5, b6, b7, b8, b9, b10, b11, b12, b13, b14, b15] 15), .i (mulE [a0, a1, a2, a3, a4, a5, a6, a7, a8, a9, a10, a11, a12, a13, a14, a15] [b0, b1, b2, b3, b4, b5, b6, b7, b8, b9, b10, b11, b12, b13, b14, b15])]
        rw [(mul_ok hA hB g).2]
        simp only [(mul_ok hA hB g).1]
        rfl
  · cases hp
end Go.Proofs.Ytnpmcfjagijkgaa.Fns
