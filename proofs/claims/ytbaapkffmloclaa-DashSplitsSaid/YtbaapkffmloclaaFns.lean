/- Layer 15: what each function does. -/
import Derived.Test.YtbaapkffmloclaaSxG2
import Derived.Test.YtbaapkffmloclaaTrees
set_option linter.unusedVariables false
set_option linter.unusedSimpArgs false
set_option maxRecDepth 10000
namespace Go.Proofs.Ytbaapkffmloclaa.Fns
open Go.Sx Go.Proofs.Ytbaapkffmloclaa.Trees

/-! ### Plain -/
def in64 (x : Int) : Prop := -9223372036854775808 ≤ x ∧ x ≤ 9223372036854775807
def rightB (p r c : Int) : Bool := (((((decide (0 ≤ p) && decide (p ≤ 65535)) && decide (1 ≤ r)) && decide (r ≤ 256)) && decide (0 ≤ c)) && decide (c ≤ 1099511627776))
def bitB (p n : Int) : Bool := decide (p / 2 ^ (n % 16).toNat % 2 = 1)
def litB (p r c k : Int) : Bool := bitB p ((c + k) / r)

theorem wrap_u64 {x : Int} (h : in64 x) : IntKind.u64.wrap x = if 0 ≤ x then x else x + 18446744073709551616 := by
  obtain ⟨h1, h2⟩ := h
  simp [IntKind.wrap, IntKind.signed, IntKind.bits]
  split <;> omega

/-! ### The contracts -/
def c7 : Contract := CFn sg7 (fun | [.i p, .i r, .i c] => True | _ => False) (fun | [.i p, .i r, .i c] => [.b (rightB p r c)] | _ => [])
def c13 : Contract := CFn sg13 (fun | [.i p, .i r, .i c] => in64 p ∧ in64 r ∧ in64 c | _ => False) (fun | [.i p, .i r, .i c] => [.b (rightB p r c)] | _ => [])
def c14 : Contract := CFn sg14 (fun | [.i n] => True | _ => False) (fun | [.i n] => [.b (decide (n < 0) || decide (1099511627776 < n))] | _ => [])
def c18 : Contract := CFn sg18 (fun | [.i p, .i n] => True | _ => False) (fun | [.i p, .i n] => [.b (bitB p n)] | _ => [])
def litPre (p r c k : Int) : Prop := 0 ≤ p ∧ p ≤ 65535 ∧ 1 ≤ r ∧ r ≤ 256 ∧ 0 ≤ c ∧ c ≤ 2199023255552 ∧ 0 ≤ k ∧ k ≤ 2199023255552
def c12 : Contract := CFn sg12 (fun | [.i p, .i r, .i c, .i k] => litPre p r c k | _ => False) (fun | [.i p, .i r, .i c, .i k] => [.b (litB p r c k)] | _ => [])
def c15 : Contract := CFn sg15 (fun | [.i p, .i r, .i c, .i k] => litPre p r c k | _ => False) (fun | [.i p, .i r, .i c, .i k] => [.b (litB p r c k)] | _ => [])
def c16 : Contract := CFn sg16 (fun | [.i p, .i r, .i c, .i k] => litPre p r c k | _ => False) (fun | [.i p, .i r, .i c, .i k] => [.i p, .i r, .i ((c + k) % (16 * r))] | _ => [])
def c17 : Contract := CFn sg17 (fun | [.i p, .i r, .i c, .i k] => litPre p r c k | _ => False) (fun | [.i p, .i r, .i c, .i k] => [.i p, .i r, .i ((c + k) % (16 * r))] | _ => [])

theorem ok7 : ContractOk Try.prog 7 c7 := by
  refine contract_of (Γ := knownOf []) known_nil Try.func7 rfl rfl is7 fun ds hk hp => ?_
  split at hp
  · simp [tree7, Tree.holds, Env.sets, Env.set, BE.den, IE.den, DE.den, DV.int, rightB]
  · cases hp

theorem ok13 : ContractOk Try.prog 13 c13 := by
  refine contract_of (Γ := knownOf []) known_nil Try.func13 rfl rfl is13 fun ds hk hp => ?_
  split at hp
  · rename_i p r c
    obtain ⟨h1, h2, h3⟩ := hp
    simp only [tree13, Tree.holds, Env.sets, Env.set, BE.den, IE.den, DE.den, DV.int, rightB, List.map_cons, List.map_nil, Nat.reduceEqDiff, ↓reduceIte, wrap_u64 h1, wrap_u64 h3, List.cons.injEq, DV.b.injEq, and_true, reduceCtorEq]
    simp only [in64] at h1 h2 h3
    rw [Bool.eq_iff_iff]
    simp only [Bool.and_eq_true, decide_eq_true_eq]
    split <;> split <;> omega
  · cases hp

theorem ok14 : ContractOk Try.prog 14 c14 := by
  refine contract_of (Γ := knownOf []) known_nil Try.func14 rfl rfl is14 fun ds hk hp => ?_
  split at hp
  · simp [tree14, Tree.holds, Env.sets, Env.set, BE.den, IE.den, DE.den, DV.int]
  · cases hp

theorem ok18 : ContractOk Try.prog 18 c18 := by
  refine contract_of (Γ := knownOf []) known_nil Try.func18 rfl rfl is18 fun ds hk hp => ?_
  split at hp
  · rename_i p n
    have h : in64 (n % 16) := by unfold in64; omega
    have hw : IntKind.u64.wrap (n % 16) = n % 16 := by rw [wrap_u64 h, if_pos (by omega)]
    simp only [tree18, Tree.holds, Ev.holds, Env.sets, Env.set, BE.den, IE.den, DE.den, DV.int, bitB, List.map_cons, List.map_nil, Nat.reduceEqDiff, ↓reduceIte, reduceCtorEq, Int.cast_ofNat_Int, hw]
    refine ⟨by simp; omega, by simp; omega, trivial⟩
  · cases hp

theorem div_of_pos {a b : Int} (ha : 0 ≤ a) (hb : 1 ≤ b) : a.tdiv b = a / b := Int.tdiv_eq_ediv_of_nonneg ha
theorem div_range {a b : Int} (ha : 0 ≤ a) (hb : 1 ≤ b) : 0 ≤ a / b ∧ a / b ≤ a :=
  ⟨Int.ediv_nonneg ha (by omega), Int.ediv_le_self b ha⟩

theorem ok12 : ContractOk Try.prog 12 c12 := by
  refine contract_of (Γ := knownOf [(18, c18)]) (known_cons ok18 rfl known_nil) Try.func12 rfl rfl is12 fun ds hk hp => ?_
  split at hp
  · rename_i p r c k
    obtain ⟨h1, h2, h3, h4, h5, h6, h7, h8⟩ := hp
    have hd := div_of_pos (a := c + k) (b := r) (by omega) (by omega)
    obtain ⟨hr1, hr2⟩ := div_range (a := c + k) (b := r) (by omega) (by omega)
    refine h_need (by simp [Env.sets, Env.set, BE.den, IE.den, DV.int]; omega) (h_need (by simp [Env.sets, Env.set, BE.den, IE.den, DV.int]; omega) (h_need (by simp [Env.sets, Env.set, BE.den, IE.den, DV.int]; omega)
      (h_call (c := c18) rfl trivial fun rs hk hr => ?_)))
    simp only [c18, Env.sets, Env.set, BE.den, IE.den, DE.den, DV.int, List.map_cons, List.map_nil, Nat.reduceEqDiff, ↓reduceIte, reduceCtorEq] at hr
    subst hr
    simp only [Tree.holds, Ev.holds, Env.sets, Env.set, BE.den, IE.den, DE.den, DV.int, DV.bool, litB, List.map_cons, List.map_nil, Nat.reduceEqDiff, ↓reduceIte, reduceCtorEq, hd]
  · cases hp

theorem ok16 : ContractOk Try.prog 16 c16 := by
  refine contract_of (Γ := knownOf []) known_nil Try.func16 rfl rfl is16 fun ds hk hp => ?_
  split at hp
  · rename_i p r c k
    obtain ⟨h1, h2, h3, h4, h5, h6, h7, h8⟩ := hp
    simp only [tree16, Tree.holds, Ev.holds, Env.sets, Env.set, BE.den, IE.den, DE.den, DV.int, DV.bool, List.map_cons, List.map_nil, Nat.reduceEqDiff, ↓reduceIte, reduceCtorEq]
    refine ⟨by simp; omega, by simp; omega, by simp; omega, ?_⟩
    rw [Int.tmod_eq_emod_of_nonneg (by omega), Int.mul_comm]
  · cases hp

theorem ok17 : ContractOk Try.prog 17 c17 := by
  refine contract_of (Γ := knownOf []) known_nil Try.func17 rfl rfl is17 fun ds hk hp => ?_
  split at hp
  · rename_i p r c k
    obtain ⟨h1, h2, h3, h4, h5, h6, h7, h8⟩ := hp
    simp only [tree17, Tree.holds, Ev.holds, Env.sets, Env.set, BE.den, IE.den, DE.den, DV.int, DV.bool, List.map_cons, List.map_nil, Nat.reduceEqDiff, ↓reduceIte, reduceCtorEq]
    refine ⟨by simp; omega, by simp; omega, by simp; omega, ?_⟩
    rw [Int.tmod_eq_emod_of_nonneg (by omega)]
  · cases hp

theorem ok15 : ContractOk Try.prog 15 c15 := by
  refine contract_of (Γ := knownOf []) known_nil Try.func15 rfl rfl is15 fun ds hk hp => ?_
  split at hp
  · rename_i p r c k
    obtain ⟨h1, h2, h3, h4, h5, h6, h7, h8⟩ := hp
    have hd := div_of_pos (a := c + k) (b := r) (by omega) (by omega)
    obtain ⟨hr1, hr2⟩ := div_range (a := c + k) (b := r) (by omega) (by omega)
    refine h_need (by simp [Env.sets, Env.set, BE.den, IE.den, DV.int]; omega) (h_need (by simp [Env.sets, Env.set, BE.den, IE.den, DV.int]; omega) (h_need (by simp [Env.sets, Env.set, BE.den, IE.den, DV.int]; omega)
      (h_loop (fun ds => ∃ i : Nat, ds = [.i (p / 2 ^ i), .i i] ∧ (i : Int) ≤ (c + k) / r % 16) (fun | [_, .i i] => (16 - i).toNat | _ => 0) ?_ ?_)))
    · refine ⟨0, ?_, by simp; omega⟩
      simp [Env.sets, Env.set, BE.den, IE.den, DE.den, DV.int]
    · intro ds _ ⟨i, hds, hi⟩
      subst hds
      have hm : ((c + k).tdiv r).tmod 16 = (c + k) / r % 16 := by rw [hd, Int.tmod_eq_emod_of_nonneg hr1]
      have hpi : 0 ≤ p / 2 ^ i ∧ p / 2 ^ i ≤ p := ⟨Int.ediv_nonneg h1 (Int.le_of_lt (Int.pow_pos (by omega))), Int.ediv_le_self _ h1⟩
      refine h_ite (fun hc => ?_) (fun hc => ?_)
      · simp only [Env.sets, Env.set, BE.den, IE.den, DV.int, Nat.reduceEqDiff, ↓reduceIte, reduceCtorEq, hm, decide_eq_true_eq] at hc
        have h2d : (p / 2 ^ i).tdiv 2 = p / 2 ^ (i + 1) := by
          rw [Int.tdiv_eq_ediv_of_nonneg hpi.1, Int.ediv_ediv_of_nonneg (Int.le_of_lt (Int.pow_pos (by omega))), Int.pow_succ]
        have hpj : 0 ≤ p / 2 ^ (i + 1) ∧ p / 2 ^ (i + 1) ≤ p := ⟨Int.ediv_nonneg h1 (Int.le_of_lt (Int.pow_pos (by omega))), Int.ediv_le_self _ h1⟩
        refine h_need (by simp [Env.sets, Env.set, BE.den, IE.den, DV.int, h2d]; omega) (h_need (by simp [Env.sets, Env.set, BE.den, IE.den, DV.int]; omega) (h_again ⟨⟨i + 1, ?_, by omega⟩, ?_⟩))
        · simp only [Env.sets, Env.set, BE.den, IE.den, DE.den, DV.int, List.map_cons, List.map_nil, Nat.reduceEqDiff, ↓reduceIte, reduceCtorEq, h2d]
          simp
        · simp only [Env.sets, Env.set, BE.den, IE.den, DE.den, DV.int, List.map_cons, List.map_nil, Nat.reduceEqDiff, ↓reduceIte, reduceCtorEq]
          omega
      · simp only [Env.sets, Env.set, BE.den, IE.den, DV.int, Nat.reduceEqDiff, ↓reduceIte, reduceCtorEq, hm, decide_eq_false_iff_not] at hc
        have hie : (i : Int) = (c + k) / r % 16 := by omega
        simp only [Tree.holds, Env.sets, Env.set, BE.den, IE.den, DE.den, DV.int, DV.bool, litB, bitB, List.map_cons, List.map_nil, Nat.reduceEqDiff, ↓reduceIte, reduceCtorEq]
        rw [← hie, Int.toNat_natCast, Int.tmod_eq_emod_of_nonneg hpi.1]
  · cases hp

end Go.Proofs.Ytbaapkffmloclaa.Fns
