/- The symbolic executor: arithmetic. -/
import Derived.Test.YtjcomklheilfjaaSxB
set_option linter.unusedVariables false
namespace Go.Sx
open Go.RowKit

theorem wrap_of_in {k : IntKind} {n : Int} (h : k.min ≤ n ∧ n ≤ k.max) : k.wrap n = n := by
  obtain ⟨h1, h2⟩ := h
  cases k <;> simp [IntKind.wrap, IntKind.min, IntKind.max, IntKind.signed, IntKind.bits] at * <;> omega

theorem ofInt_toNat (x : Int) : (BitVec.ofInt 64 x).toNat = (x % 18446744073709551616).toNat := by
  rw [BitVec.toNat_ofInt]
  rfl

theorem and_mask (k : IntKind) (hk : k = .i64 ∨ k = .u64) (x : Int) (m : Nat) (hm : m ≤ 62) :
    Go.bits .and k x (((2 ^ m : Nat) : Int) - 1) = x % ((2 ^ m : Nat) : Int) := by
  have hpos : 0 < 2 ^ m := Nat.two_pow_pos m
  have hle : 2 ^ m ≤ 2 ^ 62 := Nat.pow_le_pow_right (by decide) hm
  have e1 : (BitVec.ofInt 64 (((2 ^ m : Nat) : Int) - 1)).toNat = 2 ^ m - 1 := by
    rw [ofInt_toNat]
    generalize 2 ^ m = q at *
    have : ((q : Int) - 1) % 18446744073709551616 = (q : Int) - 1 := Int.emod_eq_of_lt (by omega) (by simp at hle; omega)
    rw [this]; omega
  have e2 : (BitVec.ofInt 64 x &&& BitVec.ofInt 64 (((2 ^ m : Nat) : Int) - 1)).toNat = (x % 18446744073709551616).toNat % 2 ^ m := by
    rw [BitVec.toNat_and, e1, Nat.and_two_pow_sub_one_eq_mod, ofInt_toNat]
  have e3 : (((x % 18446744073709551616).toNat % 2 ^ m : Nat) : Int) = x % ((2 ^ m : Nat) : Int) := by
    have h0 : 0 ≤ x % 18446744073709551616 := Int.emod_nonneg _ (by decide)
    rw [Int.natCast_emod, Int.toNat_of_nonneg h0]
    apply Int.emod_emod_of_dvd
    have : (18446744073709551616 : Int) = ((2 ^ 64 : Nat) : Int) := by decide
    rw [this]
    exact Int.natCast_dvd_natCast.2 (Nat.pow_dvd_pow 2 (by omega))
  have hlt : (x % 18446744073709551616).toNat % 2 ^ m < 2 ^ m := Nat.mod_lt _ hpos
  have hw : ∀ n : Nat, n < 2 ^ 62 → k.wrap (n : Int) = n := by
    intro n hn
    apply wrap_of_in
    rcases hk with rfl | rfl <;> simp [IntKind.min, IntKind.max, IntKind.signed, IntKind.bits] at * <;> omega
  rcases hk with rfl | rfl
  · show IntKind.i64.wrap ((BitVec.ofInt 64 x &&& BitVec.ofInt 64 (((2 ^ m : Nat) : Int) - 1)).toNat : Int) = _
    rw [e2, hw _ (by omega), e3]
  · show IntKind.u64.wrap ((BitVec.ofInt 64 x &&& BitVec.ofInt 64 (((2 ^ m : Nat) : Int) - 1)).toNat : Int) = _
    rw [e2, hw _ (by omega), e3]

theorem maskOf_spec : ∀ {f : Nat} {n : Int} {m : Nat}, maskOf f n = some m → m < f ∧ n = ((2 ^ m : Nat) : Int) - 1 := by
  intro f
  induction f with
  | zero => intro n m h; simp [maskOf] at h
  | succ f ih =>
    intro n m h
    unfold maskOf at h
    split at h
    · rename_i he
      simp only [Option.some.injEq] at h
      subst h
      exact ⟨by omega, by omega⟩
    · obtain ⟨h1, h2⟩ := ih h
      exact ⟨by omega, h2⟩

section
variable {env : Env} {ph : Ph}

theorem arith_den {wr : Bool} {k : IntKind} {e : IE} (hn : ∀ n ∈ (arith wr k e).1, n.den env = true) : (arith wr k e).2.den env ph = .int k (k.wrap (e.den env)) := by
  rw [← IE.den_mk env e]
  unfold arith at hn ⊢
  generalize e.mk = e' at *
  unfold arith0 at hn ⊢
  split at hn
  · rfl
  · cases wr
    · exact (congrArg (Value.int k) (wrap_of_in (inR_den (hn _ (List.mem_singleton.2 rfl)))).symm)
    · rfl

end
end Go.Sx
