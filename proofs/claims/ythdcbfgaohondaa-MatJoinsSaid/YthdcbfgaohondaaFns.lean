/- Layer 5: what each function does. -/
import Derived.Test.YthdcbfgaohondaaSxH2
import Derived.Test.YthdcbfgaohondaaTrees
set_option linter.unusedVariables false
set_option linter.unusedSimpArgs false
set_option maxRecDepth 10000
namespace Go.Proofs.Ythdcbfgaohondaa.Fns
open Go.Sx Go.Proofs.Ythdcbfgaohondaa.Trees

theorem i_of {a b : Int} (h : [DV.i a] = [DV.i b]) : a = b := by simpa using h
theorem b_of {a b : Bool} (h : [DV.b a] = [DV.b b]) : a = b := by simpa using h
theorem retB {X : Bool} {P : Prop} [Decidable P] (h : X = true ↔ P) : [DV.b X] = [DV.b (decide P)] := by
  by_cases hp : P
  · simp [hp, h.2 hp]
  · simp [hp, Bool.eq_false_iff.2 (fun hx => hp (h.1 hx))]
theorem eqb {p q : Prop} [Decidable p] [Decidable q] (h : p ↔ q) : decide p = decide q := by simp [h]
theorem retI {a b : Int} (h : b = a) : [DV.i a] = [DV.i b] := by rw [h]
theorem retT {P : Prop} [Decidable P] (h : P) : [DV.b true] = [DV.b (decide P)] := by simp [h]
theorem retN {P : Prop} [Decidable P] (h : ¬ P) : [DV.b false] = [DV.b (decide P)] := by simp [h]
theorem h_letE {Γ : Known} {R : List DV → Prop} {env : Env} {F : Nat → List DV → Prop} {t : Tree} {id : Nat} {op : LOp} {M : List (List Int)} (e : op.den env = M) (ht : t.holds Γ R (env.set id (.l M)) F) : (Tree.ev (.letl id op) t).holds Γ R env F := by
  subst e; exact ht
theorem floor_spec {n d : Int} (hd : 0 < d) : (n.tmod d < 0 → n.tdiv d = n / d + 1) ∧ (0 ≤ n.tmod d → n.tdiv d = n / d) := by
  have hs : d.sign = 1 := Int.sign_eq_one_of_pos hd
  rw [Int.tdiv_eq_ediv, Int.tmod_eq_emod, hs]
  have h1 := Int.emod_nonneg n (show d ≠ 0 by omega)
  have h2 := Int.emod_lt_of_pos n hd
  split <;> rename_i h <;> omega
theorem tdiv_le {n d : Int} (hd : 0 < d) (h1 : -4611686018427387904 ≤ n) (h2 : n ≤ 4611686018427387904) : -4611686018427387904 ≤ n.tdiv d ∧ n.tdiv d ≤ 4611686018427387904 := by
  have := Int.natAbs_tdiv_le_natAbs n d
  omega
theorem mul_bd {a b A B : Int} (h1 : -A ≤ a) (h2 : a ≤ A) (h3 : -B ≤ b) (h4 : b ≤ B) : -(A * B) ≤ a * b ∧ a * b ≤ A * B := by
  have e1 := Int.mul_nonneg (show 0 ≤ A - a by omega) (show 0 ≤ B - b by omega)
  have e2 := Int.mul_nonneg (show 0 ≤ A + a by omega) (show 0 ≤ B + b by omega)
  have e3 := Int.mul_nonneg (show 0 ≤ A - a by omega) (show 0 ≤ B + b by omega)
  have e4 := Int.mul_nonneg (show 0 ≤ A + a by omega) (show 0 ≤ B - b by omega)
  constructor <;> grind
def bigP (x : Int) : Prop := -4611686018427387904 ≤ x ∧ x ≤ 4611686018427387904
def inB (x : Int) : Prop := -268435456 ≤ x ∧ x ≤ 268435456
instance (x : Int) : Decidable (inB x) := inferInstanceAs (Decidable (_ ∧ _))
def rightP (l : List Int) : Prop := ∀ x ∈ l, inB x
instance (l : List Int) : Decidable (rightP l) := inferInstanceAs (Decidable (∀ x ∈ l, inB x))
theorem bd1 {a b : Int} (h1 : inB a) (h2 : inB b) : -72057594037927936 ≤ a * b ∧ a * b ≤ 72057594037927936 := mul_bd (A := 268435456) (B := 268435456) h1.1 h1.2 h2.1 h2.2
abbrev ok64 (n : Int) : Prop := -9223372036854775808 ≤ n ∧ n ≤ 9223372036854775807
theorem nd1 {a b : Int} (h1 : inB a) (h2 : inB b) : ok64 (a * b) := by have := bd1 h1 h2; unfold ok64; omega
theorem nd2 {a b c d : Int} (h1 : inB a) (h2 : inB b) (h3 : inB c) (h4 : inB d) : ok64 (a * b + c * d) := by
  have := bd1 h1 h2
  have := bd1 h3 h4
  unfold ok64; omega
theorem nd3 {a b c d e f : Int} (h1 : inB a) (h2 : inB b) (h3 : inB c) (h4 : inB d) (h5 : inB e) (h6 : inB f) : ok64 (a * b + c * d + e * f) := by
  have := bd1 h1 h2
  have := bd1 h3 h4
  have := bd1 h5 h6
  unfold ok64; omega
theorem nd4 {a b c d e f g h : Int} (h1 : inB a) (h2 : inB b) (h3 : inB c) (h4 : inB d) (h5 : inB e) (h6 : inB f) (h7 : inB g) (h8 : inB h) : ok64 (a * b + c * d + e * f + g * h) := by
  have := bd1 h1 h2
  have := bd1 h3 h4
  have := bd1 h5 h6
  have := bd1 h7 h8
  unfold ok64; omega
theorem big4 {a b c d e f g h : Int} (h1 : inB a) (h2 : inB b) (h3 : inB c) (h4 : inB d) (h5 : inB e) (h6 : inB f) (h7 : inB g) (h8 : inB h) : bigP (a * b + c * d + e * f + g * h) := by
  have := bd1 h1 h2
  have := bd1 h3 h4
  have := bd1 h5 h6
  have := bd1 h7 h8
  unfold bigP; omega
theorem h_needR {Γ : Known} {R : List DV → Prop} {env : Env} {F : Nat → List DV → Prop} {t : Tree} {e : IE} (n : Int) (hn : e.den env = n) (h : ok64 n) (ht : t.holds Γ R env F) :
    (Tree.ev (.need (.and (.le (.c (-9223372036854775808)) e) (.le e (.c 9223372036854775807)))) t).holds Γ R env F := by
  refine h_need ?_ ht
  simp only [BE.den, IE.den, hn, Bool.and_eq_true, decide_eq_true_eq]
  exact h
/-- An entry of a product. -/
def ent (A B : List Int) (i k : Nat) : Int := (A.getD (4*i) 0 * B.getD k 0 + A.getD (4*i+1) 0 * B.getD (4+k) 0 + A.getD (4*i+2) 0 * B.getD (8+k) 0 + A.getD (4*i+3) 0 * B.getD (12+k) 0) / 65536
def prodL (A B : List Int) : List Int := [ent A B 0 0, ent A B 0 1, ent A B 0 2, ent A B 0 3, ent A B 1 0, ent A B 1 1, ent A B 1 2, ent A B 1 3, ent A B 2 0, ent A B 2 1, ent A B 2 2, ent A B 2 3, ent A B 3 0, ent A B 3 1, ent A B 3 2, ent A B 3 3]
def mulI (A B : List Int) (j : Nat) : Int := if rightP A ∧ rightP B ∧ rightP (prodL A B) then (prodL A B).getD j 0 else 0
def mulE (A B : List Int) : Int := if rightP A ∧ rightP B then (if rightP (prodL A B) then 0 else 4) else 1
def appE1 (M v : List Int) (i : Nat) : Int := (M.getD (4*i) 0 * v.getD 0 0 + M.getD (4*i+1) 0 * v.getD 1 0 + M.getD (4*i+2) 0 * v.getD 2 0 + M.getD (4*i+3) 0 * v.getD 3 0) / 65536
def appL (M v : List Int) : List Int := [appE1 M v 0, appE1 M v 1, appE1 M v 2, appE1 M v 3]
def near (most : Int) (l : List Int) : Prop := ∀ x ∈ l, -most ≤ x ∧ x ≤ most
instance (n : Int) (l : List Int) : Decidable (near n l) := inferInstanceAs (Decidable (∀ x ∈ l, _ ∧ _))
def appOk (M v : List Int) (most : Int) : Prop := (rightP M ∧ 0 ≤ most ∧ most ≤ 68719476736) ∧ rightP v
instance (M v : List Int) (n : Int) : Decidable (appOk M v n) := inferInstanceAs (Decidable (_ ∧ _))
def appI (M v : List Int) (most : Int) (j : Nat) : Int := if appOk M v most ∧ near most (appL M v) then (appL M v).getD j 0 else 0
def appE (M v : List Int) (most : Int) : Int := if appOk M v most then (if near most (appL M v) then 0 else 4) else 1
def unitL : List Int := [65536, 0, 0, 0, 0, 65536, 0, 0, 0, 0, 65536, 0, 0, 0, 0, 65536]
def c24 : Contract := CFn sg24 (fun | [.i n, .i most] => bigP most | _ => False) (fun | [.i n, .i most] => [.b (decide (most < n ∨ n < -most))] | _ => [])
def c26 : Contract := CFn sg26 (fun | [.i n, .i most] => bigP most | _ => False) (fun | [.i n, .i most] => [.b (decide (-most ≤ n ∧ n ≤ most))] | _ => [])
def c28 : Contract := CFn sg28 (fun | [.i n] => bigP n | _ => False) (fun | [.i n] => [.i (n / 65536)] | _ => [])
def c27 : Contract := CFn sg27 (fun | [.i a0, .i a1, .i a2, .i a3, .i a4, .i a5, .i a6, .i a7, .i a8, .i a9, .i a10, .i a11, .i a12, .i a13, .i a14, .i a15, .i r, .i c] => (0 ≤ r ∧ r ≤ 3) ∧ 0 ≤ c ∧ c ≤ 3 | _ => False) (fun | [.i a0, .i a1, .i a2, .i a3, .i a4, .i a5, .i a6, .i a7, .i a8, .i a9, .i a10, .i a11, .i a12, .i a13, .i a14, .i a15, .i r, .i c] => [.i (([a0, a1, a2, a3, a4, a5, a6, a7, a8, a9, a10, a11, a12, a13, a14, a15] : List Int).getD (4 * r + c).toNat 0)] | _ => [])
def c25 : Contract := CFn sg25 (fun | [.l m, .i i, .l v] => m.length = 16 ∧ v.length = 4 ∧ (0 ≤ i ∧ i ≤ 3) ∧ (∀ r ∈ m, inB (r.getD 0 0)) ∧ ∀ r ∈ v, inB (r.getD 0 0) | _ => False) (fun | [.l m, .i i, .l v] => [.i ((cellAt m (4*i) 0 * cellAt v 0 0 + cellAt m (4*i+1) 0 * cellAt v 1 0 + cellAt m (4*i+2) 0 * cellAt v 2 0 + cellAt m (4*i+3) 0 * cellAt v 3 0) / 65536)] | _ => [])
def cRight (sg : Sig) : Contract := CFn sg (fun | [.i a0, .i a1, .i a2, .i a3, .i a4, .i a5, .i a6, .i a7, .i a8, .i a9, .i a10, .i a11, .i a12, .i a13, .i a14, .i a15] => True | _ => False) (fun | [.i a0, .i a1, .i a2, .i a3, .i a4, .i a5, .i a6, .i a7, .i a8, .i a9, .i a10, .i a11, .i a12, .i a13, .i a14, .i a15] => [.b (decide (rightP [a0, a1, a2, a3, a4, a5, a6, a7, a8, a9, a10, a11, a12, a13, a14, a15]))] | _ => [])
def cUnit (sg : Sig) : Contract := CFn sg (fun | [] => True | _ => False) (fun | [] => [.i 65536, .i 0, .i 0, .i 0, .i 0, .i 65536, .i 0, .i 0, .i 0, .i 0, .i 65536, .i 0, .i 0, .i 0, .i 0, .i 65536] | _ => [])
def cFlip (sg : Sig) : Contract := CFn sg (fun | [.i a0, .i a1, .i a2, .i a3, .i a4, .i a5, .i a6, .i a7, .i a8, .i a9, .i a10, .i a11, .i a12, .i a13, .i a14, .i a15] => True | _ => False) (fun | [.i a0, .i a1, .i a2, .i a3, .i a4, .i a5, .i a6, .i a7, .i a8, .i a9, .i a10, .i a11, .i a12, .i a13, .i a14, .i a15] => [.i a0, .i a4, .i a8, .i a12, .i a1, .i a5, .i a9, .i a13, .i a2, .i a6, .i a10, .i a14, .i a3, .i a7, .i a11, .i a15] | _ => [])
def cMul (sg : Sig) : Contract := CFn sg (fun | [.i a0, .i a1, .i a2, .i a3, .i a4, .i a5, .i a6, .i a7, .i a8, .i a9, .i a10, .i a11, .i a12, .i a13, .i a14, .i a15, .i b0, .i b1, .i b2, .i b3, .i b4, .i b5, .i b6, .i b7, .i b8, .i b9, .i b10, .i b11, .i b12, .i b13, .i b14, .i b15] => True | _ => False) (fun | [.i a0, .i a1, .i a2, .i a3, .i a4, .i a5, .i a6, .i a7, .i a8, .i a9, .i a10, .i a11, .i a12, .i a13, .i a14, .i a15, .i b0, .i b1, .i b2, .i b3, .i b4, .i b5, .i b6, .i b7, .i b8, .i b9, .i b10, .i b11, .i b12, .i b13, .i b14, .i b15] => [.i (mulI [a0, a1, a2, a3, a4, a5, a6, a7, a8, a9, a10, a11, a12, a13, a14, a15] [b0, b1, b2, b3, b4, b5, b6, b7, b8, b9, b10, b11, b12, b13, b14, b15] 0), .i (mulI [a0, a1, a2, a3, a4, a5, a6, a7, a8, a9, a10, a11, a12, a13, a14, a15] [b0, b1, b2, b3, b4, b5, b6, b7, b8, b9, b10, b11, b12, b13, b14, b15] 1), .i (mulI [a0, a1, a2, a3, a4, a5, a6, a7, a8, a9, a10, a11, a12, a13, a14, a15] [b0, b1, b2, b3, b4, b5, b6, b7, b8, b9, b10, b11, b12, b13, b14, b15] 2), .i (mulI [a0, a1, a2, a3, a4, a5, a6, a7, a8, a9, a10, a11, a12, a13, a14, a15] [b0, b1, b2, b3, b4, b5, b6, b7, b8, b9, b10, b11, b12, b13, b14, b15] 3), .i (mulI [a0, a1, a2, a3, a4, a5, a6, a7, a8, a9, a10, a11, a12, a13, a14, a15] [b0, b1, b2, b3, b4, b5, b6, b7, b8, b9, b10, b11, b12, b13, b14, b15] 4), .i (mulI [a0, a1, a2, a3, a4, a5, a6, a7, a8, a9, a10, a11, a12, a13, a14, a15] [b0, b1, b2, b3, b4, b5, b6, b7, b8, b9, b10, b11, b12, b13, b14, b15] 5), .i (mulI [a0, a1, a2, a3, a4, a5, a6, a7, a8, a9, a10, a11, a12, a13, a14, a15] [b0, b1, b2, b3, b4, b5, b6, b7, b8, b9, b10, b11, b12, b13, b14, b15] 6), .i (mulI [a0, a1, a2, a3, a4, a5, a6, a7, a8, a9, a10, a11, a12, a13, a14, a15] [b0, b1, b2, b3, b4, b5, b6, b7, b8, b9, b10, b11, b12, b13, b14, b15] 7), .i (mulI [a0, a1, a2, a3, a4, a5, a6, a7, a8, a9, a10, a11, a12, a13, a14, a15] [b0, b1, b2, b3, b4, b5, b6, b7, b8, b9, b10, b11, b12, b13, b14, b15] 8), .i (mulI [a0, a1, a2, a3, a4, a5, a6, a7, a8, a9, a10, a11, a12, a13, a14, a15] [b0, b1, b2, b3, b4, b5, b6, b7, b8, b9, b10, b11, b12, b13, b14, b15] 9), .i (mulI [a0, a1, a2, a3, a4, a5, a6, a7, a8, a9, a10, a11, a12, a13, a14, a15] [b0, b1, b2, b3, b4, b5, b6, b7, b8, b9, b10, b11, b12, b13, b14, b15] 10), .i (mulI [a0, a1, a2, a3, a4, a5, a6, a7, a8, a9, a10, a11, a12, a13, a14, a15] [b0, b1, b2, b3, b4, b5, b6, b7, b8, b9, b10, b11, b12, b13, b14, b15] 11), .i (mulI [a0, a1, a2, a3, a4, a5, a6, a7, a8, a9, a10, a11, a12, a13, a14, a15] [b0, b1, b2, b3, b4, b5, b6, b7, b8, b9, b10, b11, b12, b13, b14, b15] 12), .i (mulI [a0, a1, a2, a3, a4, a5, a6, a7, a8, a9, a10, a11, a12, a13, a14, a15] [b0, b1, b2, b3, b4, b5, b6, b7, b8, b9, b10, b11, b12, b13, b14, b15] 13), .i (mulI [a0, a1, a2, a3, a4, a5, a6, a7, a8, a9, a10, a11, a12, a13, a14, a15] [b0, b1, b2, b3, b4, b5, b6, b7, b8, b9, b10, b11, b12, b13, b14, b15] 14), .i (mulI [a0, a1, a2, a3, a4, a5, a6, a7, a8, a9, a10, a11, a12, a13, a14, a15] [b0, b1, b2, b3, b4, b5, b6, b7, b8, b9, b10, b11, b12, b13, b14, b15] 15), .i (mulE [a0, a1, a2, a3, a4, a5, a6, a7, a8, a9, a10, a11, a12, a13, a14, a15] [b0, b1, b2, b3, b4, b5, b6, b7, b8, b9, b10, b11, b12, b13, b14, b15])] | _ => [])
def cApply (sg : Sig) : Contract := CFn sg (fun | [.i a0, .i a1, .i a2, .i a3, .i a4, .i a5, .i a6, .i a7, .i a8, .i a9, .i a10, .i a11, .i a12, .i a13, .i a14, .i a15, .i v0, .i v1, .i v2, .i v3, .i most] => True | _ => False) (fun | [.i a0, .i a1, .i a2, .i a3, .i a4, .i a5, .i a6, .i a7, .i a8, .i a9, .i a10, .i a11, .i a12, .i a13, .i a14, .i a15, .i v0, .i v1, .i v2, .i v3, .i most] => [.i (appI [a0, a1, a2, a3, a4, a5, a6, a7, a8, a9, a10, a11, a12, a13, a14, a15] [v0, v1, v2, v3] most 0), .i (appI [a0, a1, a2, a3, a4, a5, a6, a7, a8, a9, a10, a11, a12, a13, a14, a15] [v0, v1, v2, v3] most 1), .i (appI [a0, a1, a2, a3, a4, a5, a6, a7, a8, a9, a10, a11, a12, a13, a14, a15] [v0, v1, v2, v3] most 2), .i (appI [a0, a1, a2, a3, a4, a5, a6, a7, a8, a9, a10, a11, a12, a13, a14, a15] [v0, v1, v2, v3] most 3), .i (appE [a0, a1, a2, a3, a4, a5, a6, a7, a8, a9, a10, a11, a12, a13, a14, a15] [v0, v1, v2, v3] most)] | _ => [])
theorem ok24 : ContractOk Try.prog 24 c24 := by
  refine contract_of (Γ := knownOf []) known_nil Try.func24 rfl rfl is24 fun ds hk hp => ?_
  split at hp
  · skip
    rename_i n most
    unfold bigP at hp
    refine h_need (by simp only [Env.sets, Env.set, BE.den, IE.den, DE.den, DV.int, DV.bool, DV.list, LOp.den, List.map_cons, List.map_nil, Nat.reduceEqDiff, ↓reduceIte, reduceCtorEq, Bool.and_eq_true, Bool.or_eq_true, Bool.not_eq_true', Bool.not_eq_false', Bool.and_eq_false_iff, Bool.or_eq_false_iff, decide_eq_true_eq, decide_eq_false_iff_not]; omega) ?_
    refine retB (P := most < n ∨ n < -most) ?_
    simp only [Env.sets, Env.set, BE.den, IE.den, DE.den, DV.int, DV.bool, DV.list, LOp.den, List.map_cons, List.map_nil, Nat.reduceEqDiff, ↓reduceIte, reduceCtorEq, Bool.and_eq_true, Bool.or_eq_true, Bool.not_eq_true', Bool.not_eq_false', Bool.and_eq_false_iff, Bool.or_eq_false_iff, decide_eq_true_eq, decide_eq_false_iff_not]
    omega
  · cases hp
theorem ok26 : ContractOk Try.prog 26 c26 := by
  refine contract_of (Γ := knownOf []) known_nil Try.func26 rfl rfl is26 fun ds hk hp => ?_
  split at hp
  · skip
    rename_i n most
    unfold bigP at hp
    refine h_need (by simp only [Env.sets, Env.set, BE.den, IE.den, DE.den, DV.int, DV.bool, DV.list, LOp.den, List.map_cons, List.map_nil, Nat.reduceEqDiff, ↓reduceIte, reduceCtorEq, Bool.and_eq_true, Bool.or_eq_true, Bool.not_eq_true', Bool.not_eq_false', Bool.and_eq_false_iff, Bool.or_eq_false_iff, decide_eq_true_eq, decide_eq_false_iff_not]; omega) ?_
    refine retB (P := -most ≤ n ∧ n ≤ most) ?_
    simp only [Env.sets, Env.set, BE.den, IE.den, DE.den, DV.int, DV.bool, DV.list, LOp.den, List.map_cons, List.map_nil, Nat.reduceEqDiff, ↓reduceIte, reduceCtorEq, Bool.and_eq_true, Bool.or_eq_true, Bool.not_eq_true', Bool.not_eq_false', Bool.and_eq_false_iff, Bool.or_eq_false_iff, decide_eq_true_eq, decide_eq_false_iff_not]
    omega
  · cases hp
theorem ok28 : ContractOk Try.prog 28 c28 := by
  refine contract_of (Γ := knownOf []) known_nil Try.func28 rfl rfl is28 fun ds hk hp => ?_
  split at hp
  · skip
    rename_i n
    obtain ⟨h1, h2⟩ := hp
    have hf := floor_spec (n := n) (d := 65536) (by omega)
    have hb := tdiv_le (n := n) (d := 65536) (by omega) h1 h2
    refine h_need (by simp only [Env.sets, Env.set, BE.den, IE.den, DE.den, DV.int, DV.bool, DV.list, LOp.den, List.map_cons, List.map_nil, Nat.reduceEqDiff, ↓reduceIte, reduceCtorEq, Bool.and_eq_true, Bool.or_eq_true, Bool.not_eq_true', Bool.not_eq_false', Bool.and_eq_false_iff, Bool.or_eq_false_iff, decide_eq_true_eq, decide_eq_false_iff_not]; omega) ?_
    refine h_ite (fun hc => ?_) (fun hc => ?_)
    · simp only [Env.sets, Env.set, BE.den, IE.den, DE.den, DV.int, DV.bool, DV.list, LOp.den, List.map_cons, List.map_nil, Nat.reduceEqDiff, ↓reduceIte, reduceCtorEq, Bool.and_eq_true, Bool.or_eq_true, Bool.not_eq_true', Bool.not_eq_false', Bool.and_eq_false_iff, Bool.or_eq_false_iff, decide_eq_true_eq, decide_eq_false_iff_not] at hc
      have := hf.1 hc
      refine h_need (by simp only [Env.sets, Env.set, BE.den, IE.den, DE.den, DV.int, DV.bool, DV.list, LOp.den, List.map_cons, List.map_nil, Nat.reduceEqDiff, ↓reduceIte, reduceCtorEq, Bool.and_eq_true, Bool.or_eq_true, Bool.not_eq_true', Bool.not_eq_false', Bool.and_eq_false_iff, Bool.or_eq_false_iff, decide_eq_true_eq, decide_eq_false_iff_not]; omega) ?_
      show [DV.i _] = [DV.i (n / 65536)]
      simp only [Env.sets, Env.set, BE.den, IE.den, DE.den, DV.int, DV.bool, DV.list, LOp.den, List.map_cons, List.map_nil, Nat.reduceEqDiff, ↓reduceIte, reduceCtorEq, Bool.and_eq_true, Bool.or_eq_true, Bool.not_eq_true', Bool.not_eq_false', Bool.and_eq_false_iff, Bool.or_eq_false_iff, decide_eq_true_eq, decide_eq_false_iff_not, List.cons.injEq, DV.i.injEq, and_true]
      omega
    · simp only [Env.sets, Env.set, BE.den, IE.den, DE.den, DV.int, DV.bool, DV.list, LOp.den, List.map_cons, List.map_nil, Nat.reduceEqDiff, ↓reduceIte, reduceCtorEq, Bool.and_eq_true, Bool.or_eq_true, Bool.not_eq_true', Bool.not_eq_false', Bool.and_eq_false_iff, Bool.or_eq_false_iff, decide_eq_true_eq, decide_eq_false_iff_not] at hc
      have := hf.2 (by omega)
      show [DV.i _] = [DV.i (n / 65536)]
      simp only [Env.sets, Env.set, BE.den, IE.den, DE.den, DV.int, DV.bool, DV.list, LOp.den, List.map_cons, List.map_nil, Nat.reduceEqDiff, ↓reduceIte, reduceCtorEq, Bool.and_eq_true, Bool.or_eq_true, Bool.not_eq_true', Bool.not_eq_false', Bool.and_eq_false_iff, Bool.or_eq_false_iff, decide_eq_true_eq, decide_eq_false_iff_not, List.cons.injEq, DV.i.injEq, and_true]
      omega
  · cases hp
theorem ok27 : ContractOk Try.prog 27 c27 := by
  refine contract_of (Γ := knownOf []) known_nil Try.func27 rfl rfl is27 fun ds hk hp => ?_
  split at hp
  · skip
    rename_i a0 a1 a2 a3 a4 a5 a6 a7 a8 a9 a10 a11 a12 a13 a14 a15 r c
    obtain ⟨⟨r1, r2⟩, c1, c2⟩ := hp
    iterate 4 refine h_need (by simp only [Env.sets, Env.set, BE.den, IE.den, DE.den, DV.int, DV.bool, DV.list, LOp.den, List.map_cons, List.map_nil, Nat.reduceEqDiff, ↓reduceIte, reduceCtorEq, Bool.and_eq_true, Bool.or_eq_true, Bool.not_eq_true', Bool.not_eq_false', Bool.and_eq_false_iff, Bool.or_eq_false_iff, decide_eq_true_eq, decide_eq_false_iff_not]; omega) ?_
    refine retI ?_
    simp only [Env.sets, Env.set, BE.den, IE.den, DE.den, DV.int, DV.bool, DV.list, LOp.den, List.map_cons, List.map_nil, Nat.reduceEqDiff, ↓reduceIte, reduceCtorEq, Bool.and_eq_true, Bool.or_eq_true, Bool.not_eq_true', Bool.not_eq_false', Bool.and_eq_false_iff, Bool.or_eq_false_iff, decide_eq_true_eq, decide_eq_false_iff_not]
    obtain ⟨k, hk⟩ : ∃ k, 4 * r + c = k := ⟨_, rfl⟩
    have hk1 : 0 ≤ k := by omega
    have hk2 : k ≤ 15 := by omega
    rw [hk]
    obtain ⟨n, rfl⟩ : ∃ n : Nat, k = n := ⟨k.toNat, by omega⟩
    have hn : n ≤ 15 := by omega
    clear hk hk1 hk2
    match n, hn with
    | 0, _ => rfl
    | 1, _ => rfl
    | 2, _ => rfl
    | 3, _ => rfl
    | 4, _ => rfl
    | 5, _ => rfl
    | 6, _ => rfl
    | 7, _ => rfl
    | 8, _ => rfl
    | 9, _ => rfl
    | 10, _ => rfl
    | 11, _ => rfl
    | 12, _ => rfl
    | 13, _ => rfl
    | 14, _ => rfl
    | 15, _ => rfl
  · cases hp
theorem ok25 : ContractOk Try.prog 25 c25 := by
  refine contract_of (Γ := knownOf []) known_nil Try.func25 rfl rfl is25 fun ds hk hp => ?_
  split at hp
  · skip
    rename_i mm i vv
    obtain ⟨hm, hv, ⟨i1, i2⟩, hM, hV⟩ := hp
    have gM : ∀ k : Int, 0 ≤ k → k < 16 → inB (cellAt mm k 0) := fun k h1 h2 => hM _ (by
      have hlt : k.toNat < mm.length := by omega
      have e : mm.getD k.toNat [] = mm[k.toNat] := by simp [List.getD, List.getElem?_eq_getElem hlt]
      rw [e]; exact List.getElem_mem hlt)
    have gV : ∀ k : Int, 0 ≤ k → k < 4 → inB (cellAt vv k 0) := fun k h1 h2 => hV _ (by
      have hlt : k.toNat < vv.length := by omega
      have e : vv.getD k.toNat [] = vv[k.toNat] := by simp [List.getD, List.getElem?_eq_getElem hlt]
      rw [e]; exact List.getElem_mem hlt)
    have p0 := gM (4 * i) (by omega) (by omega)
    have p1 := gM (4 * i + 1) (by omega) (by omega)
    have p2 := gM (4 * i + 2) (by omega) (by omega)
    have p3 := gM (4 * i + 3) (by omega) (by omega)
    have q0 := gV 0 (by omega) (by omega)
    have q1 := gV 1 (by omega) (by omega)
    have q2 := gV 2 (by omega) (by omega)
    have q3 := gV 3 (by omega) (by omega)
    iterate 6 refine h_need (by simp only [Env.sets, Env.set, BE.den, IE.den, DE.den, DV.int, DV.bool, DV.list, LOp.den, List.map_cons, List.map_nil, Nat.reduceEqDiff, ↓reduceIte, reduceCtorEq, Bool.and_eq_true, Bool.or_eq_true, Bool.not_eq_true', Bool.not_eq_false', Bool.and_eq_false_iff, Bool.or_eq_false_iff, decide_eq_true_eq, decide_eq_false_iff_not]; omega) ?_
    refine h_needR (cellAt mm (4*i) 0 * cellAt vv 0 0) rfl (nd1 p0 q0) ?_
    iterate 5 refine h_need (by simp only [Env.sets, Env.set, BE.den, IE.den, DE.den, DV.int, DV.bool, DV.list, LOp.den, List.map_cons, List.map_nil, Nat.reduceEqDiff, ↓reduceIte, reduceCtorEq, Bool.and_eq_true, Bool.or_eq_true, Bool.not_eq_true', Bool.not_eq_false', Bool.and_eq_false_iff, Bool.or_eq_false_iff, decide_eq_true_eq, decide_eq_false_iff_not]; omega) ?_
    refine h_needR (cellAt mm (4*i+1) 0 * cellAt vv 1 0) rfl (nd1 p1 q1) ?_
    refine h_needR (cellAt mm (4*i) 0 * cellAt vv 0 0 + cellAt mm (4*i+1) 0 * cellAt vv 1 0) rfl (nd2 p0 q0 p1 q1) ?_
    iterate 5 refine h_need (by simp only [Env.sets, Env.set, BE.den, IE.den, DE.den, DV.int, DV.bool, DV.list, LOp.den, List.map_cons, List.map_nil, Nat.reduceEqDiff, ↓reduceIte, reduceCtorEq, Bool.and_eq_true, Bool.or_eq_true, Bool.not_eq_true', Bool.not_eq_false', Bool.and_eq_false_iff, Bool.or_eq_false_iff, decide_eq_true_eq, decide_eq_false_iff_not]; omega) ?_
    refine h_needR (cellAt mm (4*i+2) 0 * cellAt vv 2 0) rfl (nd1 p2 q2) ?_
    refine h_needR (cellAt mm (4*i) 0 * cellAt vv 0 0 + cellAt mm (4*i+1) 0 * cellAt vv 1 0 + cellAt mm (4*i+2) 0 * cellAt vv 2 0) rfl (nd3 p0 q0 p1 q1 p2 q2) ?_
    iterate 5 refine h_need (by simp only [Env.sets, Env.set, BE.den, IE.den, DE.den, DV.int, DV.bool, DV.list, LOp.den, List.map_cons, List.map_nil, Nat.reduceEqDiff, ↓reduceIte, reduceCtorEq, Bool.and_eq_true, Bool.or_eq_true, Bool.not_eq_true', Bool.not_eq_false', Bool.and_eq_false_iff, Bool.or_eq_false_iff, decide_eq_true_eq, decide_eq_false_iff_not]; omega) ?_
    refine h_needR (cellAt mm (4*i+3) 0 * cellAt vv 3 0) rfl (nd1 p3 q3) ?_
    refine h_needR (cellAt mm (4*i) 0 * cellAt vv 0 0 + cellAt mm (4*i+1) 0 * cellAt vv 1 0 + cellAt mm (4*i+2) 0 * cellAt vv 2 0 + cellAt mm (4*i+3) 0 * cellAt vv 3 0) rfl (nd4 p0 q0 p1 q1 p2 q2 p3 q3) ?_
    rfl
  · cases hp
theorem ok14 : ContractOk Try.prog 14 (cRight sg14) := by
  refine contract_of (Γ := knownOf [(24, c24)]) (known_cons ok24 rfl known_nil) Try.func14 rfl rfl is14 fun ds hk hp => ?_
  split at hp
  · skip
    rename_i a0 a1 a2 a3 a4 a5 a6 a7 a8 a9 a10 a11 a12 a13 a14 a15
    refine h_call (c := c24) rfl (show bigP 268435456 by unfold bigP; omega) fun rs hk hr => ?_
    have hr : rs = [.b (decide (268435456 < a0 ∨ a0 < -268435456))] := hr
    subst hr
    refine h_ite (fun g => retN (P := rightP [a0, a1, a2, a3, a4, a5, a6, a7, a8, a9, a10, a11, a12, a13, a14, a15]) fun h => ?_) (fun g => ?_)
    · have g := of_decide_eq_true (p := 268435456 < a0 ∨ a0 < -268435456) g
      have := h a0 (by simp)
      unfold inB at this
      omega
    have h0 := of_decide_eq_false (p := 268435456 < a0 ∨ a0 < -268435456) g
    clear g
    refine h_call (c := c24) rfl (show bigP 268435456 by unfold bigP; omega) fun rs hk hr => ?_
    have hr : rs = [.b (decide (268435456 < a1 ∨ a1 < -268435456))] := hr
    subst hr
    refine h_ite (fun g => retN (P := rightP [a0, a1, a2, a3, a4, a5, a6, a7, a8, a9, a10, a11, a12, a13, a14, a15]) fun h => ?_) (fun g => ?_)
    · have g := of_decide_eq_true (p := 268435456 < a1 ∨ a1 < -268435456) g
      have := h a1 (by simp)
      unfold inB at this
      omega
    have h1 := of_decide_eq_false (p := 268435456 < a1 ∨ a1 < -268435456) g
    clear g
    refine h_call (c := c24) rfl (show bigP 268435456 by unfold bigP; omega) fun rs hk hr => ?_
    have hr : rs = [.b (decide (268435456 < a2 ∨ a2 < -268435456))] := hr
    subst hr
    refine h_ite (fun g => retN (P := rightP [a0, a1, a2, a3, a4, a5, a6, a7, a8, a9, a10, a11, a12, a13, a14, a15]) fun h => ?_) (fun g => ?_)
    · have g := of_decide_eq_true (p := 268435456 < a2 ∨ a2 < -268435456) g
      have := h a2 (by simp)
      unfold inB at this
      omega
    have h2 := of_decide_eq_false (p := 268435456 < a2 ∨ a2 < -268435456) g
    clear g
    refine h_call (c := c24) rfl (show bigP 268435456 by unfold bigP; omega) fun rs hk hr => ?_
    have hr : rs = [.b (decide (268435456 < a3 ∨ a3 < -268435456))] := hr
    subst hr
    refine h_ite (fun g => retN (P := rightP [a0, a1, a2, a3, a4, a5, a6, a7, a8, a9, a10, a11, a12, a13, a14, a15]) fun h => ?_) (fun g => ?_)
    · have g := of_decide_eq_true (p := 268435456 < a3 ∨ a3 < -268435456) g
      have := h a3 (by simp)
      unfold inB at this
      omega
    have h3 := of_decide_eq_false (p := 268435456 < a3 ∨ a3 < -268435456) g
    clear g
    refine h_call (c := c24) rfl (show bigP 268435456 by unfold bigP; omega) fun rs hk hr => ?_
    have hr : rs = [.b (decide (268435456 < a4 ∨ a4 < -268435456))] := hr
    subst hr
    refine h_ite (fun g => retN (P := rightP [a0, a1, a2, a3, a4, a5, a6, a7, a8, a9, a10, a11, a12, a13, a14, a15]) fun h => ?_) (fun g => ?_)
    · have g := of_decide_eq_true (p := 268435456 < a4 ∨ a4 < -268435456) g
      have := h a4 (by simp)
      unfold inB at this
      omega
    have h4 := of_decide_eq_false (p := 268435456 < a4 ∨ a4 < -268435456) g
    clear g
    refine h_call (c := c24) rfl (show bigP 268435456 by unfold bigP; omega) fun rs hk hr => ?_
    have hr : rs = [.b (decide (268435456 < a5 ∨ a5 < -268435456))] := hr
    subst hr
    refine h_ite (fun g => retN (P := rightP [a0, a1, a2, a3, a4, a5, a6, a7, a8, a9, a10, a11, a12, a13, a14, a15]) fun h => ?_) (fun g => ?_)
    · have g := of_decide_eq_true (p := 268435456 < a5 ∨ a5 < -268435456) g
      have := h a5 (by simp)
      unfold inB at this
      omega
    have h5 := of_decide_eq_false (p := 268435456 < a5 ∨ a5 < -268435456) g
    clear g
    refine h_call (c := c24) rfl (show bigP 268435456 by unfold bigP; omega) fun rs hk hr => ?_
    have hr : rs = [.b (decide (268435456 < a6 ∨ a6 < -268435456))] := hr
    subst hr
    refine h_ite (fun g => retN (P := rightP [a0, a1, a2, a3, a4, a5, a6, a7, a8, a9, a10, a11, a12, a13, a14, a15]) fun h => ?_) (fun g => ?_)
    · have g := of_decide_eq_true (p := 268435456 < a6 ∨ a6 < -268435456) g
      have := h a6 (by simp)
      unfold inB at this
      omega
    have h6 := of_decide_eq_false (p := 268435456 < a6 ∨ a6 < -268435456) g
    clear g
    refine h_call (c := c24) rfl (show bigP 268435456 by unfold bigP; omega) fun rs hk hr => ?_
    have hr : rs = [.b (decide (268435456 < a7 ∨ a7 < -268435456))] := hr
    subst hr
    refine h_ite (fun g => retN (P := rightP [a0, a1, a2, a3, a4, a5, a6, a7, a8, a9, a10, a11, a12, a13, a14, a15]) fun h => ?_) (fun g => ?_)
    · have g := of_decide_eq_true (p := 268435456 < a7 ∨ a7 < -268435456) g
      have := h a7 (by simp)
      unfold inB at this
      omega
    have h7 := of_decide_eq_false (p := 268435456 < a7 ∨ a7 < -268435456) g
    clear g
    refine h_call (c := c24) rfl (show bigP 268435456 by unfold bigP; omega) fun rs hk hr => ?_
    have hr : rs = [.b (decide (268435456 < a8 ∨ a8 < -268435456))] := hr
    subst hr
    refine h_ite (fun g => retN (P := rightP [a0, a1, a2, a3, a4, a5, a6, a7, a8, a9, a10, a11, a12, a13, a14, a15]) fun h => ?_) (fun g => ?_)
    · have g := of_decide_eq_true (p := 268435456 < a8 ∨ a8 < -268435456) g
      have := h a8 (by simp)
      unfold inB at this
      omega
    have h8 := of_decide_eq_false (p := 268435456 < a8 ∨ a8 < -268435456) g
    clear g
    refine h_call (c := c24) rfl (show bigP 268435456 by unfold bigP; omega) fun rs hk hr => ?_
    have hr : rs = [.b (decide (268435456 < a9 ∨ a9 < -268435456))] := hr
    subst hr
    refine h_ite (fun g => retN (P := rightP [a0, a1, a2, a3, a4, a5, a6, a7, a8, a9, a10, a11, a12, a13, a14, a15]) fun h => ?_) (fun g => ?_)
    · have g := of_decide_eq_true (p := 268435456 < a9 ∨ a9 < -268435456) g
      have := h a9 (by simp)
      unfold inB at this
      omega
    have h9 := of_decide_eq_false (p := 268435456 < a9 ∨ a9 < -268435456) g
    clear g
    refine h_call (c := c24) rfl (show bigP 268435456 by unfold bigP; omega) fun rs hk hr => ?_
    have hr : rs = [.b (decide (268435456 < a10 ∨ a10 < -268435456))] := hr
    subst hr
    refine h_ite (fun g => retN (P := rightP [a0, a1, a2, a3, a4, a5, a6, a7, a8, a9, a10, a11, a12, a13, a14, a15]) fun h => ?_) (fun g => ?_)
    · have g := of_decide_eq_true (p := 268435456 < a10 ∨ a10 < -268435456) g
      have := h a10 (by simp)
      unfold inB at this
      omega
    have h10 := of_decide_eq_false (p := 268435456 < a10 ∨ a10 < -268435456) g
    clear g
    refine h_call (c := c24) rfl (show bigP 268435456 by unfold bigP; omega) fun rs hk hr => ?_
    have hr : rs = [.b (decide (268435456 < a11 ∨ a11 < -268435456))] := hr
    subst hr
    refine h_ite (fun g => retN (P := rightP [a0, a1, a2, a3, a4, a5, a6, a7, a8, a9, a10, a11, a12, a13, a14, a15]) fun h => ?_) (fun g => ?_)
    · have g := of_decide_eq_true (p := 268435456 < a11 ∨ a11 < -268435456) g
      have := h a11 (by simp)
      unfold inB at this
      omega
    have h11 := of_decide_eq_false (p := 268435456 < a11 ∨ a11 < -268435456) g
    clear g
    refine h_call (c := c24) rfl (show bigP 268435456 by unfold bigP; omega) fun rs hk hr => ?_
    have hr : rs = [.b (decide (268435456 < a12 ∨ a12 < -268435456))] := hr
    subst hr
    refine h_ite (fun g => retN (P := rightP [a0, a1, a2, a3, a4, a5, a6, a7, a8, a9, a10, a11, a12, a13, a14, a15]) fun h => ?_) (fun g => ?_)
    · have g := of_decide_eq_true (p := 268435456 < a12 ∨ a12 < -268435456) g
      have := h a12 (by simp)
      unfold inB at this
      omega
    have h12 := of_decide_eq_false (p := 268435456 < a12 ∨ a12 < -268435456) g
    clear g
    refine h_call (c := c24) rfl (show bigP 268435456 by unfold bigP; omega) fun rs hk hr => ?_
    have hr : rs = [.b (decide (268435456 < a13 ∨ a13 < -268435456))] := hr
    subst hr
    refine h_ite (fun g => retN (P := rightP [a0, a1, a2, a3, a4, a5, a6, a7, a8, a9, a10, a11, a12, a13, a14, a15]) fun h => ?_) (fun g => ?_)
    · have g := of_decide_eq_true (p := 268435456 < a13 ∨ a13 < -268435456) g
      have := h a13 (by simp)
      unfold inB at this
      omega
    have h13 := of_decide_eq_false (p := 268435456 < a13 ∨ a13 < -268435456) g
    clear g
    refine h_call (c := c24) rfl (show bigP 268435456 by unfold bigP; omega) fun rs hk hr => ?_
    have hr : rs = [.b (decide (268435456 < a14 ∨ a14 < -268435456))] := hr
    subst hr
    refine h_ite (fun g => retN (P := rightP [a0, a1, a2, a3, a4, a5, a6, a7, a8, a9, a10, a11, a12, a13, a14, a15]) fun h => ?_) (fun g => ?_)
    · have g := of_decide_eq_true (p := 268435456 < a14 ∨ a14 < -268435456) g
      have := h a14 (by simp)
      unfold inB at this
      omega
    have h14 := of_decide_eq_false (p := 268435456 < a14 ∨ a14 < -268435456) g
    clear g
    refine h_call (c := c24) rfl (show bigP 268435456 by unfold bigP; omega) fun rs hk hr => ?_
    have hr : rs = [.b (decide (268435456 < a15 ∨ a15 < -268435456))] := hr
    subst hr
    refine h_ite (fun g => retN (P := rightP [a0, a1, a2, a3, a4, a5, a6, a7, a8, a9, a10, a11, a12, a13, a14, a15]) fun h => ?_) (fun g => ?_)
    · have g := of_decide_eq_true (p := 268435456 < a15 ∨ a15 < -268435456) g
      have := h a15 (by simp)
      unfold inB at this
      omega
    have h15 := of_decide_eq_false (p := 268435456 < a15 ∨ a15 < -268435456) g
    clear g
    refine retT (P := rightP [a0, a1, a2, a3, a4, a5, a6, a7, a8, a9, a10, a11, a12, a13, a14, a15]) ?_
    intro x hx
    simp only [List.mem_cons, List.not_mem_nil, or_false] at hx
    rcases hx with rfl | rfl | rfl | rfl | rfl | rfl | rfl | rfl | rfl | rfl | rfl | rfl | rfl | rfl | rfl | rfl <;> unfold inB <;> omega
  · cases hp
theorem ok15 : ContractOk Try.prog 15 (cRight sg15) := by
  refine contract_of (Γ := knownOf [(26, c26)]) (known_cons ok26 rfl known_nil) Try.func15 rfl rfl is15 fun ds hk hp => ?_
  split at hp
  · skip
    rename_i a0 a1 a2 a3 a4 a5 a6 a7 a8 a9 a10 a11 a12 a13 a14 a15
    refine h_call (c := c26) rfl (show bigP 268435456 by unfold bigP; omega) fun rs hk hr => ?_
    have hr : rs = [.b (decide (-268435456 ≤ a0 ∧ a0 ≤ 268435456))] := hr
    subst hr
    refine h_ite (fun g => retN (P := rightP [a0, a1, a2, a3, a4, a5, a6, a7, a8, a9, a10, a11, a12, a13, a14, a15]) fun h => ?_) (fun g => ?_)
    · have g : (!decide (-268435456 ≤ a0 ∧ a0 ≤ 268435456)) = true := g
      rw [Bool.not_eq_true', decide_eq_false_iff_not] at g
      exact g (h a0 (by simp))
    have g : (!decide (-268435456 ≤ a0 ∧ a0 ≤ 268435456)) = false := g
    rw [Bool.not_eq_false', decide_eq_true_eq] at g
    have h0 := g
    clear g
    refine h_call (c := c26) rfl (show bigP 268435456 by unfold bigP; omega) fun rs hk hr => ?_
    have hr : rs = [.b (decide (-268435456 ≤ a1 ∧ a1 ≤ 268435456))] := hr
    subst hr
    refine h_ite (fun g => retN (P := rightP [a0, a1, a2, a3, a4, a5, a6, a7, a8, a9, a10, a11, a12, a13, a14, a15]) fun h => ?_) (fun g => ?_)
    · have g : (!decide (-268435456 ≤ a1 ∧ a1 ≤ 268435456)) = true := g
      rw [Bool.not_eq_true', decide_eq_false_iff_not] at g
      exact g (h a1 (by simp))
    have g : (!decide (-268435456 ≤ a1 ∧ a1 ≤ 268435456)) = false := g
    rw [Bool.not_eq_false', decide_eq_true_eq] at g
    have h1 := g
    clear g
    refine h_call (c := c26) rfl (show bigP 268435456 by unfold bigP; omega) fun rs hk hr => ?_
    have hr : rs = [.b (decide (-268435456 ≤ a2 ∧ a2 ≤ 268435456))] := hr
    subst hr
    refine h_ite (fun g => retN (P := rightP [a0, a1, a2, a3, a4, a5, a6, a7, a8, a9, a10, a11, a12, a13, a14, a15]) fun h => ?_) (fun g => ?_)
    · have g : (!decide (-268435456 ≤ a2 ∧ a2 ≤ 268435456)) = true := g
      rw [Bool.not_eq_true', decide_eq_false_iff_not] at g
      exact g (h a2 (by simp))
    have g : (!decide (-268435456 ≤ a2 ∧ a2 ≤ 268435456)) = false := g
    rw [Bool.not_eq_false', decide_eq_true_eq] at g
    have h2 := g
    clear g
    refine h_call (c := c26) rfl (show bigP 268435456 by unfold bigP; omega) fun rs hk hr => ?_
    have hr : rs = [.b (decide (-268435456 ≤ a3 ∧ a3 ≤ 268435456))] := hr
    subst hr
    refine h_ite (fun g => retN (P := rightP [a0, a1, a2, a3, a4, a5, a6, a7, a8, a9, a10, a11, a12, a13, a14, a15]) fun h => ?_) (fun g => ?_)
    · have g : (!decide (-268435456 ≤ a3 ∧ a3 ≤ 268435456)) = true := g
      rw [Bool.not_eq_true', decide_eq_false_iff_not] at g
      exact g (h a3 (by simp))
    have g : (!decide (-268435456 ≤ a3 ∧ a3 ≤ 268435456)) = false := g
    rw [Bool.not_eq_false', decide_eq_true_eq] at g
    have h3 := g
    clear g
    refine h_call (c := c26) rfl (show bigP 268435456 by unfold bigP; omega) fun rs hk hr => ?_
    have hr : rs = [.b (decide (-268435456 ≤ a4 ∧ a4 ≤ 268435456))] := hr
    subst hr
    refine h_ite (fun g => retN (P := rightP [a0, a1, a2, a3, a4, a5, a6, a7, a8, a9, a10, a11, a12, a13, a14, a15]) fun h => ?_) (fun g => ?_)
    · have g : (!decide (-268435456 ≤ a4 ∧ a4 ≤ 268435456)) = true := g
      rw [Bool.not_eq_true', decide_eq_false_iff_not] at g
      exact g (h a4 (by simp))
    have g : (!decide (-268435456 ≤ a4 ∧ a4 ≤ 268435456)) = false := g
    rw [Bool.not_eq_false', decide_eq_true_eq] at g
    have h4 := g
    clear g
    refine h_call (c := c26) rfl (show bigP 268435456 by unfold bigP; omega) fun rs hk hr => ?_
    have hr : rs = [.b (decide (-268435456 ≤ a5 ∧ a5 ≤ 268435456))] := hr
    subst hr
    refine h_ite (fun g => retN (P := rightP [a0, a1, a2, a3, a4, a5, a6, a7, a8, a9, a10, a11, a12, a13, a14, a15]) fun h => ?_) (fun g => ?_)
    · have g : (!decide (-268435456 ≤ a5 ∧ a5 ≤ 268435456)) = true := g
      rw [Bool.not_eq_true', decide_eq_false_iff_not] at g
      exact g (h a5 (by simp))
    have g : (!decide (-268435456 ≤ a5 ∧ a5 ≤ 268435456)) = false := g
    rw [Bool.not_eq_false', decide_eq_true_eq] at g
    have h5 := g
    clear g
    refine h_call (c := c26) rfl (show bigP 268435456 by unfold bigP; omega) fun rs hk hr => ?_
    have hr : rs = [.b (decide (-268435456 ≤ a6 ∧ a6 ≤ 268435456))] := hr
    subst hr
    refine h_ite (fun g => retN (P := rightP [a0, a1, a2, a3, a4, a5, a6, a7, a8, a9, a10, a11, a12, a13, a14, a15]) fun h => ?_) (fun g => ?_)
    · have g : (!decide (-268435456 ≤ a6 ∧ a6 ≤ 268435456)) = true := g
      rw [Bool.not_eq_true', decide_eq_false_iff_not] at g
      exact g (h a6 (by simp))
    have g : (!decide (-268435456 ≤ a6 ∧ a6 ≤ 268435456)) = false := g
    rw [Bool.not_eq_false', decide_eq_true_eq] at g
    have h6 := g
    clear g
    refine h_call (c := c26) rfl (show bigP 268435456 by unfold bigP; omega) fun rs hk hr => ?_
    have hr : rs = [.b (decide (-268435456 ≤ a7 ∧ a7 ≤ 268435456))] := hr
    subst hr
    refine h_ite (fun g => retN (P := rightP [a0, a1, a2, a3, a4, a5, a6, a7, a8, a9, a10, a11, a12, a13, a14, a15]) fun h => ?_) (fun g => ?_)
    · have g : (!decide (-268435456 ≤ a7 ∧ a7 ≤ 268435456)) = true := g
      rw [Bool.not_eq_true', decide_eq_false_iff_not] at g
      exact g (h a7 (by simp))
    have g : (!decide (-268435456 ≤ a7 ∧ a7 ≤ 268435456)) = false := g
    rw [Bool.not_eq_false', decide_eq_true_eq] at g
    have h7 := g
    clear g
    refine h_call (c := c26) rfl (show bigP 268435456 by unfold bigP; omega) fun rs hk hr => ?_
    have hr : rs = [.b (decide (-268435456 ≤ a8 ∧ a8 ≤ 268435456))] := hr
    subst hr
    refine h_ite (fun g => retN (P := rightP [a0, a1, a2, a3, a4, a5, a6, a7, a8, a9, a10, a11, a12, a13, a14, a15]) fun h => ?_) (fun g => ?_)
    · have g : (!decide (-268435456 ≤ a8 ∧ a8 ≤ 268435456)) = true := g
      rw [Bool.not_eq_true', decide_eq_false_iff_not] at g
      exact g (h a8 (by simp))
    have g : (!decide (-268435456 ≤ a8 ∧ a8 ≤ 268435456)) = false := g
    rw [Bool.not_eq_false', decide_eq_true_eq] at g
    have h8 := g
    clear g
    refine h_call (c := c26) rfl (show bigP 268435456 by unfold bigP; omega) fun rs hk hr => ?_
    have hr : rs = [.b (decide (-268435456 ≤ a9 ∧ a9 ≤ 268435456))] := hr
    subst hr
    refine h_ite (fun g => retN (P := rightP [a0, a1, a2, a3, a4, a5, a6, a7, a8, a9, a10, a11, a12, a13, a14, a15]) fun h => ?_) (fun g => ?_)
    · have g : (!decide (-268435456 ≤ a9 ∧ a9 ≤ 268435456)) = true := g
      rw [Bool.not_eq_true', decide_eq_false_iff_not] at g
      exact g (h a9 (by simp))
    have g : (!decide (-268435456 ≤ a9 ∧ a9 ≤ 268435456)) = false := g
    rw [Bool.not_eq_false', decide_eq_true_eq] at g
    have h9 := g
    clear g
    refine h_call (c := c26) rfl (show bigP 268435456 by unfold bigP; omega) fun rs hk hr => ?_
    have hr : rs = [.b (decide (-268435456 ≤ a10 ∧ a10 ≤ 268435456))] := hr
    subst hr
    refine h_ite (fun g => retN (P := rightP [a0, a1, a2, a3, a4, a5, a6, a7, a8, a9, a10, a11, a12, a13, a14, a15]) fun h => ?_) (fun g => ?_)
    · have g : (!decide (-268435456 ≤ a10 ∧ a10 ≤ 268435456)) = true := g
      rw [Bool.not_eq_true', decide_eq_false_iff_not] at g
      exact g (h a10 (by simp))
    have g : (!decide (-268435456 ≤ a10 ∧ a10 ≤ 268435456)) = false := g
    rw [Bool.not_eq_false', decide_eq_true_eq] at g
    have h10 := g
    clear g
    refine h_call (c := c26) rfl (show bigP 268435456 by unfold bigP; omega) fun rs hk hr => ?_
    have hr : rs = [.b (decide (-268435456 ≤ a11 ∧ a11 ≤ 268435456))] := hr
    subst hr
    refine h_ite (fun g => retN (P := rightP [a0, a1, a2, a3, a4, a5, a6, a7, a8, a9, a10, a11, a12, a13, a14, a15]) fun h => ?_) (fun g => ?_)
    · have g : (!decide (-268435456 ≤ a11 ∧ a11 ≤ 268435456)) = true := g
      rw [Bool.not_eq_true', decide_eq_false_iff_not] at g
      exact g (h a11 (by simp))
    have g : (!decide (-268435456 ≤ a11 ∧ a11 ≤ 268435456)) = false := g
    rw [Bool.not_eq_false', decide_eq_true_eq] at g
    have h11 := g
    clear g
    refine h_call (c := c26) rfl (show bigP 268435456 by unfold bigP; omega) fun rs hk hr => ?_
    have hr : rs = [.b (decide (-268435456 ≤ a12 ∧ a12 ≤ 268435456))] := hr
    subst hr
    refine h_ite (fun g => retN (P := rightP [a0, a1, a2, a3, a4, a5, a6, a7, a8, a9, a10, a11, a12, a13, a14, a15]) fun h => ?_) (fun g => ?_)
    · have g : (!decide (-268435456 ≤ a12 ∧ a12 ≤ 268435456)) = true := g
      rw [Bool.not_eq_true', decide_eq_false_iff_not] at g
      exact g (h a12 (by simp))
    have g : (!decide (-268435456 ≤ a12 ∧ a12 ≤ 268435456)) = false := g
    rw [Bool.not_eq_false', decide_eq_true_eq] at g
    have h12 := g
    clear g
    refine h_call (c := c26) rfl (show bigP 268435456 by unfold bigP; omega) fun rs hk hr => ?_
    have hr : rs = [.b (decide (-268435456 ≤ a13 ∧ a13 ≤ 268435456))] := hr
    subst hr
    refine h_ite (fun g => retN (P := rightP [a0, a1, a2, a3, a4, a5, a6, a7, a8, a9, a10, a11, a12, a13, a14, a15]) fun h => ?_) (fun g => ?_)
    · have g : (!decide (-268435456 ≤ a13 ∧ a13 ≤ 268435456)) = true := g
      rw [Bool.not_eq_true', decide_eq_false_iff_not] at g
      exact g (h a13 (by simp))
    have g : (!decide (-268435456 ≤ a13 ∧ a13 ≤ 268435456)) = false := g
    rw [Bool.not_eq_false', decide_eq_true_eq] at g
    have h13 := g
    clear g
    refine h_call (c := c26) rfl (show bigP 268435456 by unfold bigP; omega) fun rs hk hr => ?_
    have hr : rs = [.b (decide (-268435456 ≤ a14 ∧ a14 ≤ 268435456))] := hr
    subst hr
    refine h_ite (fun g => retN (P := rightP [a0, a1, a2, a3, a4, a5, a6, a7, a8, a9, a10, a11, a12, a13, a14, a15]) fun h => ?_) (fun g => ?_)
    · have g : (!decide (-268435456 ≤ a14 ∧ a14 ≤ 268435456)) = true := g
      rw [Bool.not_eq_true', decide_eq_false_iff_not] at g
      exact g (h a14 (by simp))
    have g : (!decide (-268435456 ≤ a14 ∧ a14 ≤ 268435456)) = false := g
    rw [Bool.not_eq_false', decide_eq_true_eq] at g
    have h14 := g
    clear g
    refine h_call (c := c26) rfl (show bigP 268435456 by unfold bigP; omega) fun rs hk hr => ?_
    have hr : rs = [.b (decide (-268435456 ≤ a15 ∧ a15 ≤ 268435456))] := hr
    subst hr
    refine h_ite (fun g => retN (P := rightP [a0, a1, a2, a3, a4, a5, a6, a7, a8, a9, a10, a11, a12, a13, a14, a15]) fun h => ?_) (fun g => ?_)
    · have g : (!decide (-268435456 ≤ a15 ∧ a15 ≤ 268435456)) = true := g
      rw [Bool.not_eq_true', decide_eq_false_iff_not] at g
      exact g (h a15 (by simp))
    have g : (!decide (-268435456 ≤ a15 ∧ a15 ≤ 268435456)) = false := g
    rw [Bool.not_eq_false', decide_eq_true_eq] at g
    have h15 := g
    clear g
    refine retT (P := rightP [a0, a1, a2, a3, a4, a5, a6, a7, a8, a9, a10, a11, a12, a13, a14, a15]) ?_
    intro x hx
    simp only [List.mem_cons, List.not_mem_nil, or_false] at hx
    rcases hx with rfl | rfl | rfl | rfl | rfl | rfl | rfl | rfl | rfl | rfl | rfl | rfl | rfl | rfl | rfl | rfl <;> unfold inB <;> omega
  · cases hp
theorem ok16 : ContractOk Try.prog 16 (cFlip sg16) := by
  refine contract_of (Γ := knownOf []) known_nil Try.func16 rfl rfl is16 fun ds hk hp => ?_
  split at hp
  · skip
    rename_i a0 a1 a2 a3 a4 a5 a6 a7 a8 a9 a10 a11 a12 a13 a14 a15
    rfl
  · cases hp
theorem ok18 : ContractOk Try.prog 18 (cUnit sg18) := by
  refine contract_of (Γ := knownOf []) known_nil Try.func18 rfl rfl is18 fun ds hk hp => ?_
  split at hp
  · skip
    rfl
  · cases hp
theorem ok19 : ContractOk Try.prog 19 (cUnit sg19) := by
  refine contract_of (Γ := knownOf []) known_nil Try.func19 rfl rfl is19 fun ds hk hp => ?_
  split at hp
  · skip
    rfl
  · cases hp
theorem ok17 : ContractOk Try.prog 17 (cFlip sg17) := by
  refine contract_of (Γ := knownOf [(27, c27)]) (known_cons ok27 rfl known_nil) Try.func17 rfl rfl is17 fun ds hk hp => ?_
  split at hp
  · skip
    rename_i a0 a1 a2 a3 a4 a5 a6 a7 a8 a9 a10 a11 a12 a13 a14 a15
    refine h_call (c := c27) rfl (show (0 ≤ (0 : Int) ∧ (0 : Int) ≤ 3) ∧ 0 ≤ (0 : Int) ∧ (0 : Int) ≤ 3 by omega) fun rs hk hr => ?_
    have hr : rs = [.i a0] := hr
    subst hr
    refine h_call (c := c27) rfl (show (0 ≤ (0 : Int) ∧ (0 : Int) ≤ 3) ∧ 0 ≤ (1 : Int) ∧ (1 : Int) ≤ 3 by omega) fun rs hk hr => ?_
    have hr : rs = [.i a1] := hr
    subst hr
    refine h_call (c := c27) rfl (show (0 ≤ (0 : Int) ∧ (0 : Int) ≤ 3) ∧ 0 ≤ (2 : Int) ∧ (2 : Int) ≤ 3 by omega) fun rs hk hr => ?_
    have hr : rs = [.i a2] := hr
    subst hr
    refine h_call (c := c27) rfl (show (0 ≤ (0 : Int) ∧ (0 : Int) ≤ 3) ∧ 0 ≤ (3 : Int) ∧ (3 : Int) ≤ 3 by omega) fun rs hk hr => ?_
    have hr : rs = [.i a3] := hr
    subst hr
    refine h_call (c := c27) rfl (show (0 ≤ (1 : Int) ∧ (1 : Int) ≤ 3) ∧ 0 ≤ (0 : Int) ∧ (0 : Int) ≤ 3 by omega) fun rs hk hr => ?_
    have hr : rs = [.i a4] := hr
    subst hr
    refine h_call (c := c27) rfl (show (0 ≤ (1 : Int) ∧ (1 : Int) ≤ 3) ∧ 0 ≤ (1 : Int) ∧ (1 : Int) ≤ 3 by omega) fun rs hk hr => ?_
    have hr : rs = [.i a5] := hr
    subst hr
    refine h_call (c := c27) rfl (show (0 ≤ (1 : Int) ∧ (1 : Int) ≤ 3) ∧ 0 ≤ (2 : Int) ∧ (2 : Int) ≤ 3 by omega) fun rs hk hr => ?_
    have hr : rs = [.i a6] := hr
    subst hr
    refine h_call (c := c27) rfl (show (0 ≤ (1 : Int) ∧ (1 : Int) ≤ 3) ∧ 0 ≤ (3 : Int) ∧ (3 : Int) ≤ 3 by omega) fun rs hk hr => ?_
    have hr : rs = [.i a7] := hr
    subst hr
    refine h_call (c := c27) rfl (show (0 ≤ (2 : Int) ∧ (2 : Int) ≤ 3) ∧ 0 ≤ (0 : Int) ∧ (0 : Int) ≤ 3 by omega) fun rs hk hr => ?_
    have hr : rs = [.i a8] := hr
    subst hr
    refine h_call (c := c27) rfl (show (0 ≤ (2 : Int) ∧ (2 : Int) ≤ 3) ∧ 0 ≤ (1 : Int) ∧ (1 : Int) ≤ 3 by omega) fun rs hk hr => ?_
    have hr : rs = [.i a9] := hr
    subst hr
    refine h_call (c := c27) rfl (show (0 ≤ (2 : Int) ∧ (2 : Int) ≤ 3) ∧ 0 ≤ (2 : Int) ∧ (2 : Int) ≤ 3 by omega) fun rs hk hr => ?_
    have hr : rs = [.i a10] := hr
    subst hr
    refine h_call (c := c27) rfl (show (0 ≤ (2 : Int) ∧ (2 : Int) ≤ 3) ∧ 0 ≤ (3 : Int) ∧ (3 : Int) ≤ 3 by omega) fun rs hk hr => ?_
    have hr : rs = [.i a11] := hr
    subst hr
    refine h_call (c := c27) rfl (show (0 ≤ (3 : Int) ∧ (3 : Int) ≤ 3) ∧ 0 ≤ (0 : Int) ∧ (0 : Int) ≤ 3 by omega) fun rs hk hr => ?_
    have hr : rs = [.i a12] := hr
    subst hr
    refine h_call (c := c27) rfl (show (0 ≤ (3 : Int) ∧ (3 : Int) ≤ 3) ∧ 0 ≤ (1 : Int) ∧ (1 : Int) ≤ 3 by omega) fun rs hk hr => ?_
    have hr : rs = [.i a13] := hr
    subst hr
    refine h_call (c := c27) rfl (show (0 ≤ (3 : Int) ∧ (3 : Int) ≤ 3) ∧ 0 ≤ (2 : Int) ∧ (2 : Int) ≤ 3 by omega) fun rs hk hr => ?_
    have hr : rs = [.i a14] := hr
    subst hr
    refine h_call (c := c27) rfl (show (0 ≤ (3 : Int) ∧ (3 : Int) ≤ 3) ∧ 0 ≤ (3 : Int) ∧ (3 : Int) ≤ 3 by omega) fun rs hk hr => ?_
    have hr : rs = [.i a15] := hr
    subst hr
    rfl
  · cases hp
end Go.Proofs.Ythdcbfgaohondaa.Fns
