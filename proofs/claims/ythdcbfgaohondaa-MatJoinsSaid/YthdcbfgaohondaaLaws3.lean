/- Layer 5: the law MatJoins, as a function. -/
import Derived.Test.YthdcbfgaohondaaLaws2
set_option linter.unusedVariables false
set_option linter.unusedSimpArgs false
set_option maxRecDepth 10000
set_option maxHeartbeats 8000000
namespace Go.Proofs.Ythdcbfgaohondaa.Fns
open Go.Sx Go.Proofs.Ythdcbfgaohondaa.Trees

def c6 : Contract := CFn sg6 (fun | .i x0 :: .i x1 :: .i x2 :: .i x3 :: .i x4 :: .i x5 :: .i x6 :: .i x7 :: .i x8 :: .i x9 :: .i x10 :: .i x11 :: .i x12 :: .i x13 :: .i x14 :: .i x15 :: .i x16 :: .i x17 :: .i x18 :: .i x19 :: .i x20 :: .i x21 :: .i x22 :: .i x23 :: .i x24 :: .i x25 :: .i x26 :: .i x27 :: .i x28 :: .i x29 :: .i x30 :: .i x31 :: .i x32 :: .i x33 :: .i x34 :: .i x35 :: [] => (∀ x ∈ [x0, x1, x2, x3, x4, x5, x6, x7, x8, x9, x10, x11, x12, x13, x14, x15, x16, x17, x18, x19, x20, x21, x22, x23, x24, x25, x26, x27, x28, x29, x30, x31], -128 ≤ x ∧ x ≤ 127) ∧ ∀ x ∈ [x32, x33, x34, x35], -32768 ≤ x ∧ x ≤ 32767 | _ => False) (fun _ => [.b true])
theorem ok6 : ContractOk Try.prog 6 c6 := by
  refine contract_of (Γ := knownOf [(12, cMul sg12), (9, cApply sg9), (16, cFlip sg16), (11, c11)]) (known_cons ok12 rfl (known_cons ok9 rfl (known_cons ok16 rfl (known_cons ok11 rfl known_nil)))) Try.func6 rfl rfl is6 fun ds hk hp => ?_
  split at hp
  · skip
    rename_i x0 x1 x2 x3 x4 x5 x6 x7 x8 x9 x10 x11 x12 x13 x14 x15 x16 x17 x18 x19 x20 x21 x22 x23 x24 x25 x26 x27 x28 x29 x30 x31 x32 x33 x34 x35
    obtain ⟨_, hw⟩ := hp
    have t0 := Int.tmod_lt_of_pos x0 (show (0:Int) < 10 by omega)
    have u0 := Int.lt_tmod_of_pos x0 (show (0:Int) < 10 by omega)
    obtain ⟨a0, e0⟩ : ∃ z, x0.tmod 10 = z := ⟨_, rfl⟩
    rw [e0] at t0 u0
    have na0 : -9 ≤ a0 ∧ a0 ≤ 9 := by omega
    clear t0 u0
    have t1 := Int.tmod_lt_of_pos x1 (show (0:Int) < 10 by omega)
    have u1 := Int.lt_tmod_of_pos x1 (show (0:Int) < 10 by omega)
    obtain ⟨a1, e1⟩ : ∃ z, x1.tmod 10 = z := ⟨_, rfl⟩
    rw [e1] at t1 u1
    have na1 : -9 ≤ a1 ∧ a1 ≤ 9 := by omega
    clear t1 u1
    have t2 := Int.tmod_lt_of_pos x2 (show (0:Int) < 10 by omega)
    have u2 := Int.lt_tmod_of_pos x2 (show (0:Int) < 10 by omega)
    obtain ⟨a2, e2⟩ : ∃ z, x2.tmod 10 = z := ⟨_, rfl⟩
    rw [e2] at t2 u2
    have na2 : -9 ≤ a2 ∧ a2 ≤ 9 := by omega
    clear t2 u2
    have t3 := Int.tmod_lt_of_pos x3 (show (0:Int) < 10 by omega)
    have u3 := Int.lt_tmod_of_pos x3 (show (0:Int) < 10 by omega)
    obtain ⟨a3, e3⟩ : ∃ z, x3.tmod 10 = z := ⟨_, rfl⟩
    rw [e3] at t3 u3
    have na3 : -9 ≤ a3 ∧ a3 ≤ 9 := by omega
    clear t3 u3
    have t4 := Int.tmod_lt_of_pos x4 (show (0:Int) < 10 by omega)
    have u4 := Int.lt_tmod_of_pos x4 (show (0:Int) < 10 by omega)
    obtain ⟨a4, e4⟩ : ∃ z, x4.tmod 10 = z := ⟨_, rfl⟩
    rw [e4] at t4 u4
    have na4 : -9 ≤ a4 ∧ a4 ≤ 9 := by omega
    clear t4 u4
    have t5 := Int.tmod_lt_of_pos x5 (show (0:Int) < 10 by omega)
    have u5 := Int.lt_tmod_of_pos x5 (show (0:Int) < 10 by omega)
    obtain ⟨a5, e5⟩ : ∃ z, x5.tmod 10 = z := ⟨_, rfl⟩
    rw [e5] at t5 u5
    have na5 : -9 ≤ a5 ∧ a5 ≤ 9 := by omega
    clear t5 u5
    have t6 := Int.tmod_lt_of_pos x6 (show (0:Int) < 10 by omega)
    have u6 := Int.lt_tmod_of_pos x6 (show (0:Int) < 10 by omega)
    obtain ⟨a6, e6⟩ : ∃ z, x6.tmod 10 = z := ⟨_, rfl⟩
    rw [e6] at t6 u6
    have na6 : -9 ≤ a6 ∧ a6 ≤ 9 := by omega
    clear t6 u6
    have t7 := Int.tmod_lt_of_pos x7 (show (0:Int) < 10 by omega)
    have u7 := Int.lt_tmod_of_pos x7 (show (0:Int) < 10 by omega)
    obtain ⟨a7, e7⟩ : ∃ z, x7.tmod 10 = z := ⟨_, rfl⟩
    rw [e7] at t7 u7
    have na7 : -9 ≤ a7 ∧ a7 ≤ 9 := by omega
    clear t7 u7
    have t8 := Int.tmod_lt_of_pos x8 (show (0:Int) < 10 by omega)
    have u8 := Int.lt_tmod_of_pos x8 (show (0:Int) < 10 by omega)
    obtain ⟨a8, e8⟩ : ∃ z, x8.tmod 10 = z := ⟨_, rfl⟩
    rw [e8] at t8 u8
    have na8 : -9 ≤ a8 ∧ a8 ≤ 9 := by omega
    clear t8 u8
    have t9 := Int.tmod_lt_of_pos x9 (show (0:Int) < 10 by omega)
    have u9 := Int.lt_tmod_of_pos x9 (show (0:Int) < 10 by omega)
    obtain ⟨a9, e9⟩ : ∃ z, x9.tmod 10 = z := ⟨_, rfl⟩
    rw [e9] at t9 u9
    have na9 : -9 ≤ a9 ∧ a9 ≤ 9 := by omega
    clear t9 u9
    have t10 := Int.tmod_lt_of_pos x10 (show (0:Int) < 10 by omega)
    have u10 := Int.lt_tmod_of_pos x10 (show (0:Int) < 10 by omega)
    obtain ⟨a10, e10⟩ : ∃ z, x10.tmod 10 = z := ⟨_, rfl⟩
    rw [e10] at t10 u10
    have na10 : -9 ≤ a10 ∧ a10 ≤ 9 := by omega
    clear t10 u10
    have t11 := Int.tmod_lt_of_pos x11 (show (0:Int) < 10 by omega)
    have u11 := Int.lt_tmod_of_pos x11 (show (0:Int) < 10 by omega)
    obtain ⟨a11, e11⟩ : ∃ z, x11.tmod 10 = z := ⟨_, rfl⟩
    rw [e11] at t11 u11
    have na11 : -9 ≤ a11 ∧ a11 ≤ 9 := by omega
    clear t11 u11
    have t12 := Int.tmod_lt_of_pos x12 (show (0:Int) < 10 by omega)
    have u12 := Int.lt_tmod_of_pos x12 (show (0:Int) < 10 by omega)
    obtain ⟨a12, e12⟩ : ∃ z, x12.tmod 10 = z := ⟨_, rfl⟩
    rw [e12] at t12 u12
    have na12 : -9 ≤ a12 ∧ a12 ≤ 9 := by omega
    clear t12 u12
    have t13 := Int.tmod_lt_of_pos x13 (show (0:Int) < 10 by omega)
    have u13 := Int.lt_tmod_of_pos x13 (show (0:Int) < 10 by omega)
    obtain ⟨a13, e13⟩ : ∃ z, x13.tmod 10 = z := ⟨_, rfl⟩
    rw [e13] at t13 u13
    have na13 : -9 ≤ a13 ∧ a13 ≤ 9 := by omega
    clear t13 u13
    have t14 := Int.tmod_lt_of_pos x14 (show (0:Int) < 10 by omega)
    have u14 := Int.lt_tmod_of_pos x14 (show (0:Int) < 10 by omega)
    obtain ⟨a14, e14⟩ : ∃ z, x14.tmod 10 = z := ⟨_, rfl⟩
    rw [e14] at t14 u14
    have na14 : -9 ≤ a14 ∧ a14 ≤ 9 := by omega
    clear t14 u14
    have t15 := Int.tmod_lt_of_pos x15 (show (0:Int) < 10 by omega)
    have u15 := Int.lt_tmod_of_pos x15 (show (0:Int) < 10 by omega)
    obtain ⟨a15, e15⟩ : ∃ z, x15.tmod 10 = z := ⟨_, rfl⟩
    rw [e15] at t15 u15
    have na15 : -9 ≤ a15 ∧ a15 ≤ 9 := by omega
    clear t15 u15
    have t16 := Int.tmod_lt_of_pos x16 (show (0:Int) < 10 by omega)
    have u16 := Int.lt_tmod_of_pos x16 (show (0:Int) < 10 by omega)
    obtain ⟨b0, e16⟩ : ∃ z, x16.tmod 10 = z := ⟨_, rfl⟩
    rw [e16] at t16 u16
    have nb0 : -9 ≤ b0 ∧ b0 ≤ 9 := by omega
    clear t16 u16
    have t17 := Int.tmod_lt_of_pos x17 (show (0:Int) < 10 by omega)
    have u17 := Int.lt_tmod_of_pos x17 (show (0:Int) < 10 by omega)
    obtain ⟨b1, e17⟩ : ∃ z, x17.tmod 10 = z := ⟨_, rfl⟩
    rw [e17] at t17 u17
    have nb1 : -9 ≤ b1 ∧ b1 ≤ 9 := by omega
    clear t17 u17
    have t18 := Int.tmod_lt_of_pos x18 (show (0:Int) < 10 by omega)
    have u18 := Int.lt_tmod_of_pos x18 (show (0:Int) < 10 by omega)
    obtain ⟨b2, e18⟩ : ∃ z, x18.tmod 10 = z := ⟨_, rfl⟩
    rw [e18] at t18 u18
    have nb2 : -9 ≤ b2 ∧ b2 ≤ 9 := by omega
    clear t18 u18
    have t19 := Int.tmod_lt_of_pos x19 (show (0:Int) < 10 by omega)
    have u19 := Int.lt_tmod_of_pos x19 (show (0:Int) < 10 by omega)
    obtain ⟨b3, e19⟩ : ∃ z, x19.tmod 10 = z := ⟨_, rfl⟩
    rw [e19] at t19 u19
    have nb3 : -9 ≤ b3 ∧ b3 ≤ 9 := by omega
    clear t19 u19
    have t20 := Int.tmod_lt_of_pos x20 (show (0:Int) < 10 by omega)
    have u20 := Int.lt_tmod_of_pos x20 (show (0:Int) < 10 by omega)
    obtain ⟨b4, e20⟩ : ∃ z, x20.tmod 10 = z := ⟨_, rfl⟩
    rw [e20] at t20 u20
    have nb4 : -9 ≤ b4 ∧ b4 ≤ 9 := by omega
    clear t20 u20
    have t21 := Int.tmod_lt_of_pos x21 (show (0:Int) < 10 by omega)
    have u21 := Int.lt_tmod_of_pos x21 (show (0:Int) < 10 by omega)
    obtain ⟨b5, e21⟩ : ∃ z, x21.tmod 10 = z := ⟨_, rfl⟩
    rw [e21] at t21 u21
    have nb5 : -9 ≤ b5 ∧ b5 ≤ 9 := by omega
    clear t21 u21
    have t22 := Int.tmod_lt_of_pos x22 (show (0:Int) < 10 by omega)
    have u22 := Int.lt_tmod_of_pos x22 (show (0:Int) < 10 by omega)
    obtain ⟨b6, e22⟩ : ∃ z, x22.tmod 10 = z := ⟨_, rfl⟩
    rw [e22] at t22 u22
    have nb6 : -9 ≤ b6 ∧ b6 ≤ 9 := by omega
    clear t22 u22
    have t23 := Int.tmod_lt_of_pos x23 (show (0:Int) < 10 by omega)
    have u23 := Int.lt_tmod_of_pos x23 (show (0:Int) < 10 by omega)
    obtain ⟨b7, e23⟩ : ∃ z, x23.tmod 10 = z := ⟨_, rfl⟩
    rw [e23] at t23 u23
    have nb7 : -9 ≤ b7 ∧ b7 ≤ 9 := by omega
    clear t23 u23
    have t24 := Int.tmod_lt_of_pos x24 (show (0:Int) < 10 by omega)
    have u24 := Int.lt_tmod_of_pos x24 (show (0:Int) < 10 by omega)
    obtain ⟨b8, e24⟩ : ∃ z, x24.tmod 10 = z := ⟨_, rfl⟩
    rw [e24] at t24 u24
    have nb8 : -9 ≤ b8 ∧ b8 ≤ 9 := by omega
    clear t24 u24
    have t25 := Int.tmod_lt_of_pos x25 (show (0:Int) < 10 by omega)
    have u25 := Int.lt_tmod_of_pos x25 (show (0:Int) < 10 by omega)
    obtain ⟨b9, e25⟩ : ∃ z, x25.tmod 10 = z := ⟨_, rfl⟩
    rw [e25] at t25 u25
    have nb9 : -9 ≤ b9 ∧ b9 ≤ 9 := by omega
    clear t25 u25
    have t26 := Int.tmod_lt_of_pos x26 (show (0:Int) < 10 by omega)
    have u26 := Int.lt_tmod_of_pos x26 (show (0:Int) < 10 by omega)
    obtain ⟨b10, e26⟩ : ∃ z, x26.tmod 10 = z := ⟨_, rfl⟩
    rw [e26] at t26 u26
    have nb10 : -9 ≤ b10 ∧ b10 ≤ 9 := by omega
    clear t26 u26
    have t27 := Int.tmod_lt_of_pos x27 (show (0:Int) < 10 by omega)
    have u27 := Int.lt_tmod_of_pos x27 (show (0:Int) < 10 by omega)
    obtain ⟨b11, e27⟩ : ∃ z, x27.tmod 10 = z := ⟨_, rfl⟩
    rw [e27] at t27 u27
    have nb11 : -9 ≤ b11 ∧ b11 ≤ 9 := by omega
    clear t27 u27
    have t28 := Int.tmod_lt_of_pos x28 (show (0:Int) < 10 by omega)
    have u28 := Int.lt_tmod_of_pos x28 (show (0:Int) < 10 by omega)
    obtain ⟨b12, e28⟩ : ∃ z, x28.tmod 10 = z := ⟨_, rfl⟩
    rw [e28] at t28 u28
    have nb12 : -9 ≤ b12 ∧ b12 ≤ 9 := by omega
    clear t28 u28
    have t29 := Int.tmod_lt_of_pos x29 (show (0:Int) < 10 by omega)
    have u29 := Int.lt_tmod_of_pos x29 (show (0:Int) < 10 by omega)
    obtain ⟨b13, e29⟩ : ∃ z, x29.tmod 10 = z := ⟨_, rfl⟩
    rw [e29] at t29 u29
    have nb13 : -9 ≤ b13 ∧ b13 ≤ 9 := by omega
    clear t29 u29
    have t30 := Int.tmod_lt_of_pos x30 (show (0:Int) < 10 by omega)
    have u30 := Int.lt_tmod_of_pos x30 (show (0:Int) < 10 by omega)
    obtain ⟨b14, e30⟩ : ∃ z, x30.tmod 10 = z := ⟨_, rfl⟩
    rw [e30] at t30 u30
    have nb14 : -9 ≤ b14 ∧ b14 ≤ 9 := by omega
    clear t30 u30
    have t31 := Int.tmod_lt_of_pos x31 (show (0:Int) < 10 by omega)
    have u31 := Int.lt_tmod_of_pos x31 (show (0:Int) < 10 by omega)
    obtain ⟨b15, e31⟩ : ∃ z, x31.tmod 10 = z := ⟨_, rfl⟩
    rw [e31] at t31 u31
    have nb15 : -9 ≤ b15 ∧ b15 ≤ 9 := by omega
    clear t31 u31
    have hw0 : -32768 ≤ x32 ∧ x32 ≤ 32768 := by have := hw x32 (by simp); omega
    have hw1 : -32768 ≤ x33 ∧ x33 ≤ 32768 := by have := hw x33 (by simp); omega
    have hw2 : -32768 ≤ x34 ∧ x34 ≤ 32768 := by have := hw x34 (by simp); omega
    have hw3 : -32768 ≤ x35 ∧ x35 ≤ 32768 := by have := hw x35 (by simp); omega
    refine h_need (by simp only [Env.sets, Env.set, BE.den, IE.den, DE.den, DV.int, DV.bool, DV.list, LOp.den, List.map_cons, List.map_nil, Nat.reduceEqDiff, ↓reduceIte, reduceCtorEq, Bool.and_eq_true, Bool.or_eq_true, Bool.not_eq_true', Bool.not_eq_false', Bool.and_eq_false_iff, Bool.or_eq_false_iff, decide_eq_true_eq, decide_eq_false_iff_not, e0]; omega) ?_
    refine h_need (by simp only [Env.sets, Env.set, BE.den, IE.den, DE.den, DV.int, DV.bool, DV.list, LOp.den, List.map_cons, List.map_nil, Nat.reduceEqDiff, ↓reduceIte, reduceCtorEq, Bool.and_eq_true, Bool.or_eq_true, Bool.not_eq_true', Bool.not_eq_false', Bool.and_eq_false_iff, Bool.or_eq_false_iff, decide_eq_true_eq, decide_eq_false_iff_not, e0]; omega) ?_
    refine h_need (by simp only [Env.sets, Env.set, BE.den, IE.den, DE.den, DV.int, DV.bool, DV.list, LOp.den, List.map_cons, List.map_nil, Nat.reduceEqDiff, ↓reduceIte, reduceCtorEq, Bool.and_eq_true, Bool.or_eq_true, Bool.not_eq_true', Bool.not_eq_false', Bool.and_eq_false_iff, Bool.or_eq_false_iff, decide_eq_true_eq, decide_eq_false_iff_not, e16]; omega) ?_
    refine h_need (by simp only [Env.sets, Env.set, BE.den, IE.den, DE.den, DV.int, DV.bool, DV.list, LOp.den, List.map_cons, List.map_nil, Nat.reduceEqDiff, ↓reduceIte, reduceCtorEq, Bool.and_eq_true, Bool.or_eq_true, Bool.not_eq_true', Bool.not_eq_false', Bool.and_eq_false_iff, Bool.or_eq_false_iff, decide_eq_true_eq, decide_eq_false_iff_not, e16]; omega) ?_
    refine h_need (by simp only [Env.sets, Env.set, BE.den, IE.den, DE.den, DV.int, DV.bool, DV.list, LOp.den, List.map_cons, List.map_nil, Nat.reduceEqDiff, ↓reduceIte, reduceCtorEq, Bool.and_eq_true, Bool.or_eq_true, Bool.not_eq_true', Bool.not_eq_false', Bool.and_eq_false_iff, Bool.or_eq_false_iff, decide_eq_true_eq, decide_eq_false_iff_not, e1]; omega) ?_
    refine h_need (by simp only [Env.sets, Env.set, BE.den, IE.den, DE.den, DV.int, DV.bool, DV.list, LOp.den, List.map_cons, List.map_nil, Nat.reduceEqDiff, ↓reduceIte, reduceCtorEq, Bool.and_eq_true, Bool.or_eq_true, Bool.not_eq_true', Bool.not_eq_false', Bool.and_eq_false_iff, Bool.or_eq_false_iff, decide_eq_true_eq, decide_eq_false_iff_not, e1]; omega) ?_
    refine h_need (by simp only [Env.sets, Env.set, BE.den, IE.den, DE.den, DV.int, DV.bool, DV.list, LOp.den, List.map_cons, List.map_nil, Nat.reduceEqDiff, ↓reduceIte, reduceCtorEq, Bool.and_eq_true, Bool.or_eq_true, Bool.not_eq_true', Bool.not_eq_false', Bool.and_eq_false_iff, Bool.or_eq_false_iff, decide_eq_true_eq, decide_eq_false_iff_not, e17]; omega) ?_
    refine h_need (by simp only [Env.sets, Env.set, BE.den, IE.den, DE.den, DV.int, DV.bool, DV.list, LOp.den, List.map_cons, List.map_nil, Nat.reduceEqDiff, ↓reduceIte, reduceCtorEq, Bool.and_eq_true, Bool.or_eq_true, Bool.not_eq_true', Bool.not_eq_false', Bool.and_eq_false_iff, Bool.or_eq_false_iff, decide_eq_true_eq, decide_eq_false_iff_not, e17]; omega) ?_
    refine h_need (by simp only [Env.sets, Env.set, BE.den, IE.den, DE.den, DV.int, DV.bool, DV.list, LOp.den, List.map_cons, List.map_nil, Nat.reduceEqDiff, ↓reduceIte, reduceCtorEq, Bool.and_eq_true, Bool.or_eq_true, Bool.not_eq_true', Bool.not_eq_false', Bool.and_eq_false_iff, Bool.or_eq_false_iff, decide_eq_true_eq, decide_eq_false_iff_not, e2]; omega) ?_
    refine h_need (by simp only [Env.sets, Env.set, BE.den, IE.den, DE.den, DV.int, DV.bool, DV.list, LOp.den, List.map_cons, List.map_nil, Nat.reduceEqDiff, ↓reduceIte, reduceCtorEq, Bool.and_eq_true, Bool.or_eq_true, Bool.not_eq_true', Bool.not_eq_false', Bool.and_eq_false_iff, Bool.or_eq_false_iff, decide_eq_true_eq, decide_eq_false_iff_not, e2]; omega) ?_
    refine h_need (by simp only [Env.sets, Env.set, BE.den, IE.den, DE.den, DV.int, DV.bool, DV.list, LOp.den, List.map_cons, List.map_nil, Nat.reduceEqDiff, ↓reduceIte, reduceCtorEq, Bool.and_eq_true, Bool.or_eq_true, Bool.not_eq_true', Bool.not_eq_false', Bool.and_eq_false_iff, Bool.or_eq_false_iff, decide_eq_true_eq, decide_eq_false_iff_not, e18]; omega) ?_
    refine h_need (by simp only [Env.sets, Env.set, BE.den, IE.den, DE.den, DV.int, DV.bool, DV.list, LOp.den, List.map_cons, List.map_nil, Nat.reduceEqDiff, ↓reduceIte, reduceCtorEq, Bool.and_eq_true, Bool.or_eq_true, Bool.not_eq_true', Bool.not_eq_false', Bool.and_eq_false_iff, Bool.or_eq_false_iff, decide_eq_true_eq, decide_eq_false_iff_not, e18]; omega) ?_
    refine h_need (by simp only [Env.sets, Env.set, BE.den, IE.den, DE.den, DV.int, DV.bool, DV.list, LOp.den, List.map_cons, List.map_nil, Nat.reduceEqDiff, ↓reduceIte, reduceCtorEq, Bool.and_eq_true, Bool.or_eq_true, Bool.not_eq_true', Bool.not_eq_false', Bool.and_eq_false_iff, Bool.or_eq_false_iff, decide_eq_true_eq, decide_eq_false_iff_not, e3]; omega) ?_
    refine h_need (by simp only [Env.sets, Env.set, BE.den, IE.den, DE.den, DV.int, DV.bool, DV.list, LOp.den, List.map_cons, List.map_nil, Nat.reduceEqDiff, ↓reduceIte, reduceCtorEq, Bool.and_eq_true, Bool.or_eq_true, Bool.not_eq_true', Bool.not_eq_false', Bool.and_eq_false_iff, Bool.or_eq_false_iff, decide_eq_true_eq, decide_eq_false_iff_not, e3]; omega) ?_
    refine h_need (by simp only [Env.sets, Env.set, BE.den, IE.den, DE.den, DV.int, DV.bool, DV.list, LOp.den, List.map_cons, List.map_nil, Nat.reduceEqDiff, ↓reduceIte, reduceCtorEq, Bool.and_eq_true, Bool.or_eq_true, Bool.not_eq_true', Bool.not_eq_false', Bool.and_eq_false_iff, Bool.or_eq_false_iff, decide_eq_true_eq, decide_eq_false_iff_not, e19]; omega) ?_
    refine h_need (by simp only [Env.sets, Env.set, BE.den, IE.den, DE.den, DV.int, DV.bool, DV.list, LOp.den, List.map_cons, List.map_nil, Nat.reduceEqDiff, ↓reduceIte, reduceCtorEq, Bool.and_eq_true, Bool.or_eq_true, Bool.not_eq_true', Bool.not_eq_false', Bool.and_eq_false_iff, Bool.or_eq_false_iff, decide_eq_true_eq, decide_eq_false_iff_not, e19]; omega) ?_
    refine h_need (by simp only [Env.sets, Env.set, BE.den, IE.den, DE.den, DV.int, DV.bool, DV.list, LOp.den, List.map_cons, List.map_nil, Nat.reduceEqDiff, ↓reduceIte, reduceCtorEq, Bool.and_eq_true, Bool.or_eq_true, Bool.not_eq_true', Bool.not_eq_false', Bool.and_eq_false_iff, Bool.or_eq_false_iff, decide_eq_true_eq, decide_eq_false_iff_not, e4]; omega) ?_
    refine h_need (by simp only [Env.sets, Env.set, BE.den, IE.den, DE.den, DV.int, DV.bool, DV.list, LOp.den, List.map_cons, List.map_nil, Nat.reduceEqDiff, ↓reduceIte, reduceCtorEq, Bool.and_eq_true, Bool.or_eq_true, Bool.not_eq_true', Bool.not_eq_false', Bool.and_eq_false_iff, Bool.or_eq_false_iff, decide_eq_true_eq, decide_eq_false_iff_not, e4]; omega) ?_
    refine h_need (by simp only [Env.sets, Env.set, BE.den, IE.den, DE.den, DV.int, DV.bool, DV.list, LOp.den, List.map_cons, List.map_nil, Nat.reduceEqDiff, ↓reduceIte, reduceCtorEq, Bool.and_eq_true, Bool.or_eq_true, Bool.not_eq_true', Bool.not_eq_false', Bool.and_eq_false_iff, Bool.or_eq_false_iff, decide_eq_true_eq, decide_eq_false_iff_not, e20]; omega) ?_
    refine h_need (by simp only [Env.sets, Env.set, BE.den, IE.den, DE.den, DV.int, DV.bool, DV.list, LOp.den, List.map_cons, List.map_nil, Nat.reduceEqDiff, ↓reduceIte, reduceCtorEq, Bool.and_eq_true, Bool.or_eq_true, Bool.not_eq_true', Bool.not_eq_false', Bool.and_eq_false_iff, Bool.or_eq_false_iff, decide_eq_true_eq, decide_eq_false_iff_not, e20]; omega) ?_
    refine h_need (by simp only [Env.sets, Env.set, BE.den, IE.den, DE.den, DV.int, DV.bool, DV.list, LOp.den, List.map_cons, List.map_nil, Nat.reduceEqDiff, ↓reduceIte, reduceCtorEq, Bool.and_eq_true, Bool.or_eq_true, Bool.not_eq_true', Bool.not_eq_false', Bool.and_eq_false_iff, Bool.or_eq_false_iff, decide_eq_true_eq, decide_eq_false_iff_not, e5]; omega) ?_
    refine h_need (by simp only [Env.sets, Env.set, BE.den, IE.den, DE.den, DV.int, DV.bool, DV.list, LOp.den, List.map_cons, List.map_nil, Nat.reduceEqDiff, ↓reduceIte, reduceCtorEq, Bool.and_eq_true, Bool.or_eq_true, Bool.not_eq_true', Bool.not_eq_false', Bool.and_eq_false_iff, Bool.or_eq_false_iff, decide_eq_true_eq, decide_eq_false_iff_not, e5]; omega) ?_
    refine h_need (by simp only [Env.sets, Env.set, BE.den, IE.den, DE.den, DV.int, DV.bool, DV.list, LOp.den, List.map_cons, List.map_nil, Nat.reduceEqDiff, ↓reduceIte, reduceCtorEq, Bool.and_eq_true, Bool.or_eq_true, Bool.not_eq_true', Bool.not_eq_false', Bool.and_eq_false_iff, Bool.or_eq_false_iff, decide_eq_true_eq, decide_eq_false_iff_not, e21]; omega) ?_
    refine h_need (by simp only [Env.sets, Env.set, BE.den, IE.den, DE.den, DV.int, DV.bool, DV.list, LOp.den, List.map_cons, List.map_nil, Nat.reduceEqDiff, ↓reduceIte, reduceCtorEq, Bool.and_eq_true, Bool.or_eq_true, Bool.not_eq_true', Bool.not_eq_false', Bool.and_eq_false_iff, Bool.or_eq_false_iff, decide_eq_true_eq, decide_eq_false_iff_not, e21]; omega) ?_
    refine h_need (by simp only [Env.sets, Env.set, BE.den, IE.den, DE.den, DV.int, DV.bool, DV.list, LOp.den, List.map_cons, List.map_nil, Nat.reduceEqDiff, ↓reduceIte, reduceCtorEq, Bool.and_eq_true, Bool.or_eq_true, Bool.not_eq_true', Bool.not_eq_false', Bool.and_eq_false_iff, Bool.or_eq_false_iff, decide_eq_true_eq, decide_eq_false_iff_not, e6]; omega) ?_
    refine h_need (by simp only [Env.sets, Env.set, BE.den, IE.den, DE.den, DV.int, DV.bool, DV.list, LOp.den, List.map_cons, List.map_nil, Nat.reduceEqDiff, ↓reduceIte, reduceCtorEq, Bool.and_eq_true, Bool.or_eq_true, Bool.not_eq_true', Bool.not_eq_false', Bool.and_eq_false_iff, Bool.or_eq_false_iff, decide_eq_true_eq, decide_eq_false_iff_not, e6]; omega) ?_
    refine h_need (by simp only [Env.sets, Env.set, BE.den, IE.den, DE.den, DV.int, DV.bool, DV.list, LOp.den, List.map_cons, List.map_nil, Nat.reduceEqDiff, ↓reduceIte, reduceCtorEq, Bool.and_eq_true, Bool.or_eq_true, Bool.not_eq_true', Bool.not_eq_false', Bool.and_eq_false_iff, Bool.or_eq_false_iff, decide_eq_true_eq, decide_eq_false_iff_not, e22]; omega) ?_
    refine h_need (by simp only [Env.sets, Env.set, BE.den, IE.den, DE.den, DV.int, DV.bool, DV.list, LOp.den, List.map_cons, List.map_nil, Nat.reduceEqDiff, ↓reduceIte, reduceCtorEq, Bool.and_eq_true, Bool.or_eq_true, Bool.not_eq_true', Bool.not_eq_false', Bool.and_eq_false_iff, Bool.or_eq_false_iff, decide_eq_true_eq, decide_eq_false_iff_not, e22]; omega) ?_
    refine h_need (by simp only [Env.sets, Env.set, BE.den, IE.den, DE.den, DV.int, DV.bool, DV.list, LOp.den, List.map_cons, List.map_nil, Nat.reduceEqDiff, ↓reduceIte, reduceCtorEq, Bool.and_eq_true, Bool.or_eq_true, Bool.not_eq_true', Bool.not_eq_false', Bool.and_eq_false_iff, Bool.or_eq_false_iff, decide_eq_true_eq, decide_eq_false_iff_not, e7]; omega) ?_
    refine h_need (by simp only [Env.sets, Env.set, BE.den, IE.den, DE.den, DV.int, DV.bool, DV.list, LOp.den, List.map_cons, List.map_nil, Nat.reduceEqDiff, ↓reduceIte, reduceCtorEq, Bool.and_eq_true, Bool.or_eq_true, Bool.not_eq_true', Bool.not_eq_false', Bool.and_eq_false_iff, Bool.or_eq_false_iff, decide_eq_true_eq, decide_eq_false_iff_not, e7]; omega) ?_
    refine h_need (by simp only [Env.sets, Env.set, BE.den, IE.den, DE.den, DV.int, DV.bool, DV.list, LOp.den, List.map_cons, List.map_nil, Nat.reduceEqDiff, ↓reduceIte, reduceCtorEq, Bool.and_eq_true, Bool.or_eq_true, Bool.not_eq_true', Bool.not_eq_false', Bool.and_eq_false_iff, Bool.or_eq_false_iff, decide_eq_true_eq, decide_eq_false_iff_not, e23]; omega) ?_
    refine h_need (by simp only [Env.sets, Env.set, BE.den, IE.den, DE.den, DV.int, DV.bool, DV.list, LOp.den, List.map_cons, List.map_nil, Nat.reduceEqDiff, ↓reduceIte, reduceCtorEq, Bool.and_eq_true, Bool.or_eq_true, Bool.not_eq_true', Bool.not_eq_false', Bool.and_eq_false_iff, Bool.or_eq_false_iff, decide_eq_true_eq, decide_eq_false_iff_not, e23]; omega) ?_
    refine h_need (by simp only [Env.sets, Env.set, BE.den, IE.den, DE.den, DV.int, DV.bool, DV.list, LOp.den, List.map_cons, List.map_nil, Nat.reduceEqDiff, ↓reduceIte, reduceCtorEq, Bool.and_eq_true, Bool.or_eq_true, Bool.not_eq_true', Bool.not_eq_false', Bool.and_eq_false_iff, Bool.or_eq_false_iff, decide_eq_true_eq, decide_eq_false_iff_not, e8]; omega) ?_
    refine h_need (by simp only [Env.sets, Env.set, BE.den, IE.den, DE.den, DV.int, DV.bool, DV.list, LOp.den, List.map_cons, List.map_nil, Nat.reduceEqDiff, ↓reduceIte, reduceCtorEq, Bool.and_eq_true, Bool.or_eq_true, Bool.not_eq_true', Bool.not_eq_false', Bool.and_eq_false_iff, Bool.or_eq_false_iff, decide_eq_true_eq, decide_eq_false_iff_not, e8]; omega) ?_
    refine h_need (by simp only [Env.sets, Env.set, BE.den, IE.den, DE.den, DV.int, DV.bool, DV.list, LOp.den, List.map_cons, List.map_nil, Nat.reduceEqDiff, ↓reduceIte, reduceCtorEq, Bool.and_eq_true, Bool.or_eq_true, Bool.not_eq_true', Bool.not_eq_false', Bool.and_eq_false_iff, Bool.or_eq_false_iff, decide_eq_true_eq, decide_eq_false_iff_not, e24]; omega) ?_
    refine h_need (by simp only [Env.sets, Env.set, BE.den, IE.den, DE.den, DV.int, DV.bool, DV.list, LOp.den, List.map_cons, List.map_nil, Nat.reduceEqDiff, ↓reduceIte, reduceCtorEq, Bool.and_eq_true, Bool.or_eq_true, Bool.not_eq_true', Bool.not_eq_false', Bool.and_eq_false_iff, Bool.or_eq_false_iff, decide_eq_true_eq, decide_eq_false_iff_not, e24]; omega) ?_
    refine h_need (by simp only [Env.sets, Env.set, BE.den, IE.den, DE.den, DV.int, DV.bool, DV.list, LOp.den, List.map_cons, List.map_nil, Nat.reduceEqDiff, ↓reduceIte, reduceCtorEq, Bool.and_eq_true, Bool.or_eq_true, Bool.not_eq_true', Bool.not_eq_false', Bool.and_eq_false_iff, Bool.or_eq_false_iff, decide_eq_true_eq, decide_eq_false_iff_not, e9]; omega) ?_
    refine h_need (by simp only [Env.sets, Env.set, BE.den, IE.den, DE.den, DV.int, DV.bool, DV.list, LOp.den, List.map_cons, List.map_nil, Nat.reduceEqDiff, ↓reduceIte, reduceCtorEq, Bool.and_eq_true, Bool.or_eq_true, Bool.not_eq_true', Bool.not_eq_false', Bool.and_eq_false_iff, Bool.or_eq_false_iff, decide_eq_true_eq, decide_eq_false_iff_not, e9]; omega) ?_
    refine h_need (by simp only [Env.sets, Env.set, BE.den, IE.den, DE.den, DV.int, DV.bool, DV.list, LOp.den, List.map_cons, List.map_nil, Nat.reduceEqDiff, ↓reduceIte, reduceCtorEq, Bool.and_eq_true, Bool.or_eq_true, Bool.not_eq_true', Bool.not_eq_false', Bool.and_eq_false_iff, Bool.or_eq_false_iff, decide_eq_true_eq, decide_eq_false_iff_not, e25]; omega) ?_
    refine h_need (by simp only [Env.sets, Env.set, BE.den, IE.den, DE.den, DV.int, DV.bool, DV.list, LOp.den, List.map_cons, List.map_nil, Nat.reduceEqDiff, ↓reduceIte, reduceCtorEq, Bool.and_eq_true, Bool.or_eq_true, Bool.not_eq_true', Bool.not_eq_false', Bool.and_eq_false_iff, Bool.or_eq_false_iff, decide_eq_true_eq, decide_eq_false_iff_not, e25]; omega) ?_
    refine h_need (by simp only [Env.sets, Env.set, BE.den, IE.den, DE.den, DV.int, DV.bool, DV.list, LOp.den, List.map_cons, List.map_nil, Nat.reduceEqDiff, ↓reduceIte, reduceCtorEq, Bool.and_eq_true, Bool.or_eq_true, Bool.not_eq_true', Bool.not_eq_false', Bool.and_eq_false_iff, Bool.or_eq_false_iff, decide_eq_true_eq, decide_eq_false_iff_not, e10]; omega) ?_
    refine h_need (by simp only [Env.sets, Env.set, BE.den, IE.den, DE.den, DV.int, DV.bool, DV.list, LOp.den, List.map_cons, List.map_nil, Nat.reduceEqDiff, ↓reduceIte, reduceCtorEq, Bool.and_eq_true, Bool.or_eq_true, Bool.not_eq_true', Bool.not_eq_false', Bool.and_eq_false_iff, Bool.or_eq_false_iff, decide_eq_true_eq, decide_eq_false_iff_not, e10]; omega) ?_
    refine h_need (by simp only [Env.sets, Env.set, BE.den, IE.den, DE.den, DV.int, DV.bool, DV.list, LOp.den, List.map_cons, List.map_nil, Nat.reduceEqDiff, ↓reduceIte, reduceCtorEq, Bool.and_eq_true, Bool.or_eq_true, Bool.not_eq_true', Bool.not_eq_false', Bool.and_eq_false_iff, Bool.or_eq_false_iff, decide_eq_true_eq, decide_eq_false_iff_not, e26]; omega) ?_
    refine h_need (by simp only [Env.sets, Env.set, BE.den, IE.den, DE.den, DV.int, DV.bool, DV.list, LOp.den, List.map_cons, List.map_nil, Nat.reduceEqDiff, ↓reduceIte, reduceCtorEq, Bool.and_eq_true, Bool.or_eq_true, Bool.not_eq_true', Bool.not_eq_false', Bool.and_eq_false_iff, Bool.or_eq_false_iff, decide_eq_true_eq, decide_eq_false_iff_not, e26]; omega) ?_
    refine h_need (by simp only [Env.sets, Env.set, BE.den, IE.den, DE.den, DV.int, DV.bool, DV.list, LOp.den, List.map_cons, List.map_nil, Nat.reduceEqDiff, ↓reduceIte, reduceCtorEq, Bool.and_eq_true, Bool.or_eq_true, Bool.not_eq_true', Bool.not_eq_false', Bool.and_eq_false_iff, Bool.or_eq_false_iff, decide_eq_true_eq, decide_eq_false_iff_not, e11]; omega) ?_
    refine h_need (by simp only [Env.sets, Env.set, BE.den, IE.den, DE.den, DV.int, DV.bool, DV.list, LOp.den, List.map_cons, List.map_nil, Nat.reduceEqDiff, ↓reduceIte, reduceCtorEq, Bool.and_eq_true, Bool.or_eq_true, Bool.not_eq_true', Bool.not_eq_false', Bool.and_eq_false_iff, Bool.or_eq_false_iff, decide_eq_true_eq, decide_eq_false_iff_not, e11]; omega) ?_
    refine h_need (by simp only [Env.sets, Env.set, BE.den, IE.den, DE.den, DV.int, DV.bool, DV.list, LOp.den, List.map_cons, List.map_nil, Nat.reduceEqDiff, ↓reduceIte, reduceCtorEq, Bool.and_eq_true, Bool.or_eq_true, Bool.not_eq_true', Bool.not_eq_false', Bool.and_eq_false_iff, Bool.or_eq_false_iff, decide_eq_true_eq, decide_eq_false_iff_not, e27]; omega) ?_
    refine h_need (by simp only [Env.sets, Env.set, BE.den, IE.den, DE.den, DV.int, DV.bool, DV.list, LOp.den, List.map_cons, List.map_nil, Nat.reduceEqDiff, ↓reduceIte, reduceCtorEq, Bool.and_eq_true, Bool.or_eq_true, Bool.not_eq_true', Bool.not_eq_false', Bool.and_eq_false_iff, Bool.or_eq_false_iff, decide_eq_true_eq, decide_eq_false_iff_not, e27]; omega) ?_
    refine h_need (by simp only [Env.sets, Env.set, BE.den, IE.den, DE.den, DV.int, DV.bool, DV.list, LOp.den, List.map_cons, List.map_nil, Nat.reduceEqDiff, ↓reduceIte, reduceCtorEq, Bool.and_eq_true, Bool.or_eq_true, Bool.not_eq_true', Bool.not_eq_false', Bool.and_eq_false_iff, Bool.or_eq_false_iff, decide_eq_true_eq, decide_eq_false_iff_not, e12]; omega) ?_
    refine h_need (by simp only [Env.sets, Env.set, BE.den, IE.den, DE.den, DV.int, DV.bool, DV.list, LOp.den, List.map_cons, List.map_nil, Nat.reduceEqDiff, ↓reduceIte, reduceCtorEq, Bool.and_eq_true, Bool.or_eq_true, Bool.not_eq_true', Bool.not_eq_false', Bool.and_eq_false_iff, Bool.or_eq_false_iff, decide_eq_true_eq, decide_eq_false_iff_not, e12]; omega) ?_
    refine h_need (by simp only [Env.sets, Env.set, BE.den, IE.den, DE.den, DV.int, DV.bool, DV.list, LOp.den, List.map_cons, List.map_nil, Nat.reduceEqDiff, ↓reduceIte, reduceCtorEq, Bool.and_eq_true, Bool.or_eq_true, Bool.not_eq_true', Bool.not_eq_false', Bool.and_eq_false_iff, Bool.or_eq_false_iff, decide_eq_true_eq, decide_eq_false_iff_not, e28]; omega) ?_
    refine h_need (by simp only [Env.sets, Env.set, BE.den, IE.den, DE.den, DV.int, DV.bool, DV.list, LOp.den, List.map_cons, List.map_nil, Nat.reduceEqDiff, ↓reduceIte, reduceCtorEq, Bool.and_eq_true, Bool.or_eq_true, Bool.not_eq_true', Bool.not_eq_false', Bool.and_eq_false_iff, Bool.or_eq_false_iff, decide_eq_true_eq, decide_eq_false_iff_not, e28]; omega) ?_
    refine h_need (by simp only [Env.sets, Env.set, BE.den, IE.den, DE.den, DV.int, DV.bool, DV.list, LOp.den, List.map_cons, List.map_nil, Nat.reduceEqDiff, ↓reduceIte, reduceCtorEq, Bool.and_eq_true, Bool.or_eq_true, Bool.not_eq_true', Bool.not_eq_false', Bool.and_eq_false_iff, Bool.or_eq_false_iff, decide_eq_true_eq, decide_eq_false_iff_not, e13]; omega) ?_
    refine h_need (by simp only [Env.sets, Env.set, BE.den, IE.den, DE.den, DV.int, DV.bool, DV.list, LOp.den, List.map_cons, List.map_nil, Nat.reduceEqDiff, ↓reduceIte, reduceCtorEq, Bool.and_eq_true, Bool.or_eq_true, Bool.not_eq_true', Bool.not_eq_false', Bool.and_eq_false_iff, Bool.or_eq_false_iff, decide_eq_true_eq, decide_eq_false_iff_not, e13]; omega) ?_
    refine h_need (by simp only [Env.sets, Env.set, BE.den, IE.den, DE.den, DV.int, DV.bool, DV.list, LOp.den, List.map_cons, List.map_nil, Nat.reduceEqDiff, ↓reduceIte, reduceCtorEq, Bool.and_eq_true, Bool.or_eq_true, Bool.not_eq_true', Bool.not_eq_false', Bool.and_eq_false_iff, Bool.or_eq_false_iff, decide_eq_true_eq, decide_eq_false_iff_not, e29]; omega) ?_
    refine h_need (by simp only [Env.sets, Env.set, BE.den, IE.den, DE.den, DV.int, DV.bool, DV.list, LOp.den, List.map_cons, List.map_nil, Nat.reduceEqDiff, ↓reduceIte, reduceCtorEq, Bool.and_eq_true, Bool.or_eq_true, Bool.not_eq_true', Bool.not_eq_false', Bool.and_eq_false_iff, Bool.or_eq_false_iff, decide_eq_true_eq, decide_eq_false_iff_not, e29]; omega) ?_
    refine h_need (by simp only [Env.sets, Env.set, BE.den, IE.den, DE.den, DV.int, DV.bool, DV.list, LOp.den, List.map_cons, List.map_nil, Nat.reduceEqDiff, ↓reduceIte, reduceCtorEq, Bool.and_eq_true, Bool.or_eq_true, Bool.not_eq_true', Bool.not_eq_false', Bool.and_eq_false_iff, Bool.or_eq_false_iff, decide_eq_true_eq, decide_eq_false_iff_not, e14]; omega) ?_
    refine h_need (by simp only [Env.sets, Env.set, BE.den, IE.den, DE.den, DV.int, DV.bool, DV.list, LOp.den, List.map_cons, List.map_nil, Nat.reduceEqDiff, ↓reduceIte, reduceCtorEq, Bool.and_eq_true, Bool.or_eq_true, Bool.not_eq_true', Bool.not_eq_false', Bool.and_eq_false_iff, Bool.or_eq_false_iff, decide_eq_true_eq, decide_eq_false_iff_not, e14]; omega) ?_
    refine h_need (by simp only [Env.sets, Env.set, BE.den, IE.den, DE.den, DV.int, DV.bool, DV.list, LOp.den, List.map_cons, List.map_nil, Nat.reduceEqDiff, ↓reduceIte, reduceCtorEq, Bool.and_eq_true, Bool.or_eq_true, Bool.not_eq_true', Bool.not_eq_false', Bool.and_eq_false_iff, Bool.or_eq_false_iff, decide_eq_true_eq, decide_eq_false_iff_not, e30]; omega) ?_
    refine h_need (by simp only [Env.sets, Env.set, BE.den, IE.den, DE.den, DV.int, DV.bool, DV.list, LOp.den, List.map_cons, List.map_nil, Nat.reduceEqDiff, ↓reduceIte, reduceCtorEq, Bool.and_eq_true, Bool.or_eq_true, Bool.not_eq_true', Bool.not_eq_false', Bool.and_eq_false_iff, Bool.or_eq_false_iff, decide_eq_true_eq, decide_eq_false_iff_not, e30]; omega) ?_
    refine h_need (by simp only [Env.sets, Env.set, BE.den, IE.den, DE.den, DV.int, DV.bool, DV.list, LOp.den, List.map_cons, List.map_nil, Nat.reduceEqDiff, ↓reduceIte, reduceCtorEq, Bool.and_eq_true, Bool.or_eq_true, Bool.not_eq_true', Bool.not_eq_false', Bool.and_eq_false_iff, Bool.or_eq_false_iff, decide_eq_true_eq, decide_eq_false_iff_not, e15]; omega) ?_
    refine h_need (by simp only [Env.sets, Env.set, BE.den, IE.den, DE.den, DV.int, DV.bool, DV.list, LOp.den, List.map_cons, List.map_nil, Nat.reduceEqDiff, ↓reduceIte, reduceCtorEq, Bool.and_eq_true, Bool.or_eq_true, Bool.not_eq_true', Bool.not_eq_false', Bool.and_eq_false_iff, Bool.or_eq_false_iff, decide_eq_true_eq, decide_eq_false_iff_not, e15]; omega) ?_
    refine h_need (by simp only [Env.sets, Env.set, BE.den, IE.den, DE.den, DV.int, DV.bool, DV.list, LOp.den, List.map_cons, List.map_nil, Nat.reduceEqDiff, ↓reduceIte, reduceCtorEq, Bool.and_eq_true, Bool.or_eq_true, Bool.not_eq_true', Bool.not_eq_false', Bool.and_eq_false_iff, Bool.or_eq_false_iff, decide_eq_true_eq, decide_eq_false_iff_not, e31]; omega) ?_
    refine h_need (by simp only [Env.sets, Env.set, BE.den, IE.den, DE.den, DV.int, DV.bool, DV.list, LOp.den, List.map_cons, List.map_nil, Nat.reduceEqDiff, ↓reduceIte, reduceCtorEq, Bool.and_eq_true, Bool.or_eq_true, Bool.not_eq_true', Bool.not_eq_false', Bool.and_eq_false_iff, Bool.or_eq_false_iff, decide_eq_true_eq, decide_eq_false_iff_not, e31]; omega) ?_
    iterate 4 refine h_need (by simp only [Env.sets, Env.set, BE.den, IE.den, DE.den, DV.int, DV.bool, DV.list, LOp.den, List.map_cons, List.map_nil, Nat.reduceEqDiff, ↓reduceIte, reduceCtorEq, Bool.and_eq_true, Bool.or_eq_true, Bool.not_eq_true', Bool.not_eq_false', Bool.and_eq_false_iff, Bool.or_eq_false_iff, decide_eq_true_eq, decide_eq_false_iff_not]; omega) ?_
    have bs00 := bd4 (M := 9) (K := 9) (by omega) (by omega) na0 na1 na2 na3 nb0 nb4 nb8 nb12
    obtain ⟨s00, es00⟩ : ∃ z, a0 * b0 + a1 * b4 + a2 * b8 + a3 * b12 = z := ⟨_, rfl⟩
    rw [es00] at bs00
    have bs01 := bd4 (M := 9) (K := 9) (by omega) (by omega) na0 na1 na2 na3 nb1 nb5 nb9 nb13
    obtain ⟨s01, es01⟩ : ∃ z, a0 * b1 + a1 * b5 + a2 * b9 + a3 * b13 = z := ⟨_, rfl⟩
    rw [es01] at bs01
    have bs02 := bd4 (M := 9) (K := 9) (by omega) (by omega) na0 na1 na2 na3 nb2 nb6 nb10 nb14
    obtain ⟨s02, es02⟩ : ∃ z, a0 * b2 + a1 * b6 + a2 * b10 + a3 * b14 = z := ⟨_, rfl⟩
    rw [es02] at bs02
    have bs03 := bd4 (M := 9) (K := 9) (by omega) (by omega) na0 na1 na2 na3 nb3 nb7 nb11 nb15
    obtain ⟨s03, es03⟩ : ∃ z, a0 * b3 + a1 * b7 + a2 * b11 + a3 * b15 = z := ⟨_, rfl⟩
    rw [es03] at bs03
    have bs10 := bd4 (M := 9) (K := 9) (by omega) (by omega) na4 na5 na6 na7 nb0 nb4 nb8 nb12
    obtain ⟨s10, es10⟩ : ∃ z, a4 * b0 + a5 * b4 + a6 * b8 + a7 * b12 = z := ⟨_, rfl⟩
    rw [es10] at bs10
    have bs11 := bd4 (M := 9) (K := 9) (by omega) (by omega) na4 na5 na6 na7 nb1 nb5 nb9 nb13
    obtain ⟨s11, es11⟩ : ∃ z, a4 * b1 + a5 * b5 + a6 * b9 + a7 * b13 = z := ⟨_, rfl⟩
    rw [es11] at bs11
    have bs12 := bd4 (M := 9) (K := 9) (by omega) (by omega) na4 na5 na6 na7 nb2 nb6 nb10 nb14
    obtain ⟨s12, es12⟩ : ∃ z, a4 * b2 + a5 * b6 + a6 * b10 + a7 * b14 = z := ⟨_, rfl⟩
    rw [es12] at bs12
    have bs13 := bd4 (M := 9) (K := 9) (by omega) (by omega) na4 na5 na6 na7 nb3 nb7 nb11 nb15
    obtain ⟨s13, es13⟩ : ∃ z, a4 * b3 + a5 * b7 + a6 * b11 + a7 * b15 = z := ⟨_, rfl⟩
    rw [es13] at bs13
    have bs20 := bd4 (M := 9) (K := 9) (by omega) (by omega) na8 na9 na10 na11 nb0 nb4 nb8 nb12
    obtain ⟨s20, es20⟩ : ∃ z, a8 * b0 + a9 * b4 + a10 * b8 + a11 * b12 = z := ⟨_, rfl⟩
    rw [es20] at bs20
    have bs21 := bd4 (M := 9) (K := 9) (by omega) (by omega) na8 na9 na10 na11 nb1 nb5 nb9 nb13
    obtain ⟨s21, es21⟩ : ∃ z, a8 * b1 + a9 * b5 + a10 * b9 + a11 * b13 = z := ⟨_, rfl⟩
    rw [es21] at bs21
    have bs22 := bd4 (M := 9) (K := 9) (by omega) (by omega) na8 na9 na10 na11 nb2 nb6 nb10 nb14
    obtain ⟨s22, es22⟩ : ∃ z, a8 * b2 + a9 * b6 + a10 * b10 + a11 * b14 = z := ⟨_, rfl⟩
    rw [es22] at bs22
    have bs23 := bd4 (M := 9) (K := 9) (by omega) (by omega) na8 na9 na10 na11 nb3 nb7 nb11 nb15
    obtain ⟨s23, es23⟩ : ∃ z, a8 * b3 + a9 * b7 + a10 * b11 + a11 * b15 = z := ⟨_, rfl⟩
    rw [es23] at bs23
    have bs30 := bd4 (M := 9) (K := 9) (by omega) (by omega) na12 na13 na14 na15 nb0 nb4 nb8 nb12
    obtain ⟨s30, es30⟩ : ∃ z, a12 * b0 + a13 * b4 + a14 * b8 + a15 * b12 = z := ⟨_, rfl⟩
    rw [es30] at bs30
    have bs31 := bd4 (M := 9) (K := 9) (by omega) (by omega) na12 na13 na14 na15 nb1 nb5 nb9 nb13
    obtain ⟨s31, es31⟩ : ∃ z, a12 * b1 + a13 * b5 + a14 * b9 + a15 * b13 = z := ⟨_, rfl⟩
    rw [es31] at bs31
    have bs32 := bd4 (M := 9) (K := 9) (by omega) (by omega) na12 na13 na14 na15 nb2 nb6 nb10 nb14
    obtain ⟨s32, es32⟩ : ∃ z, a12 * b2 + a13 * b6 + a14 * b10 + a15 * b14 = z := ⟨_, rfl⟩
    rw [es32] at bs32
    have bs33 := bd4 (M := 9) (K := 9) (by omega) (by omega) na12 na13 na14 na15 nb3 nb7 nb11 nb15
    obtain ⟨s33, es33⟩ : ∃ z, a12 * b3 + a13 * b7 + a14 * b11 + a15 * b15 = z := ⟨_, rfl⟩
    rw [es33] at bs33
    have rA : rightP [a0 * 65536, a1 * 65536, a2 * 65536, a3 * 65536, a4 * 65536, a5 * 65536, a6 * 65536, a7 * 65536, a8 * 65536, a9 * 65536, a10 * 65536, a11 * 65536, a12 * 65536, a13 * 65536, a14 * 65536, a15 * 65536] := by
      intro z hz
      simp only [List.mem_cons, List.not_mem_nil, or_false] at hz
      rcases hz with rfl | rfl | rfl | rfl | rfl | rfl | rfl | rfl | rfl | rfl | rfl | rfl | rfl | rfl | rfl | rfl <;> unfold inB <;> omega
    have rB : rightP [b0 * 65536, b1 * 65536, b2 * 65536, b3 * 65536, b4 * 65536, b5 * 65536, b6 * 65536, b7 * 65536, b8 * 65536, b9 * 65536, b10 * 65536, b11 * 65536, b12 * 65536, b13 * 65536, b14 * 65536, b15 * 65536] := by
      intro z hz
      simp only [List.mem_cons, List.not_mem_nil, or_false] at hz
      rcases hz with rfl | rfl | rfl | rfl | rfl | rfl | rfl | rfl | rfl | rfl | rfl | rfl | rfl | rfl | rfl | rfl <;> unfold inB <;> omega
    have rP : rightP [s00 * 65536, s01 * 65536, s02 * 65536, s03 * 65536, s10 * 65536, s11 * 65536, s12 * 65536, s13 * 65536, s20 * 65536, s21 * 65536, s22 * 65536, s23 * 65536, s30 * 65536, s31 * 65536, s32 * 65536, s33 * 65536] := by
      intro z hz
      simp only [List.mem_cons, List.not_mem_nil, or_false] at hz
      rcases hz with rfl | rfl | rfl | rfl | rfl | rfl | rfl | rfl | rfl | rfl | rfl | rfl | rfl | rfl | rfl | rfl <;> unfold inB <;> omega
    have rFA : rightP [a0 * 65536, a4 * 65536, a8 * 65536, a12 * 65536, a1 * 65536, a5 * 65536, a9 * 65536, a13 * 65536, a2 * 65536, a6 * 65536, a10 * 65536, a14 * 65536, a3 * 65536, a7 * 65536, a11 * 65536, a15 * 65536] := by
      intro z hz
      simp only [List.mem_cons, List.not_mem_nil, or_false] at hz
      rcases hz with rfl | rfl | rfl | rfl | rfl | rfl | rfl | rfl | rfl | rfl | rfl | rfl | rfl | rfl | rfl | rfl <;> unfold inB <;> omega
    have rFB : rightP [b0 * 65536, b4 * 65536, b8 * 65536, b12 * 65536, b1 * 65536, b5 * 65536, b9 * 65536, b13 * 65536, b2 * 65536, b6 * 65536, b10 * 65536, b14 * 65536, b3 * 65536, b7 * 65536, b11 * 65536, b15 * 65536] := by
      intro z hz
      simp only [List.mem_cons, List.not_mem_nil, or_false] at hz
      rcases hz with rfl | rfl | rfl | rfl | rfl | rfl | rfl | rfl | rfl | rfl | rfl | rfl | rfl | rfl | rfl | rfl <;> unfold inB <;> omega
    have rFP : rightP [s00 * 65536, s10 * 65536, s20 * 65536, s30 * 65536, s01 * 65536, s11 * 65536, s21 * 65536, s31 * 65536, s02 * 65536, s12 * 65536, s22 * 65536, s32 * 65536, s03 * 65536, s13 * 65536, s23 * 65536, s33 * 65536] := by
      intro z hz
      simp only [List.mem_cons, List.not_mem_nil, or_false] at hz
      rcases hz with rfl | rfl | rfl | rfl | rfl | rfl | rfl | rfl | rfl | rfl | rfl | rfl | rfl | rfl | rfl | rfl <;> unfold inB <;> omega
    have hp00 : ent [a0 * 65536, a1 * 65536, a2 * 65536, a3 * 65536, a4 * 65536, a5 * 65536, a6 * 65536, a7 * 65536, a8 * 65536, a9 * 65536, a10 * 65536, a11 * 65536, a12 * 65536, a13 * 65536, a14 * 65536, a15 * 65536] [b0 * 65536, b1 * 65536, b2 * 65536, b3 * 65536, b4 * 65536, b5 * 65536, b6 * 65536, b7 * 65536, b8 * 65536, b9 * 65536, b10 * 65536, b11 * 65536, b12 * 65536, b13 * 65536, b14 * 65536, b15 * 65536] 0 0 = s00 * 65536 := by rw [← es00]; exact (sc1 (a := a0) (b := a1) (c := a2) (d := a3) (e := b0) (f := b4) (g := b8) (h := b12))
    have hp01 : ent [a0 * 65536, a1 * 65536, a2 * 65536, a3 * 65536, a4 * 65536, a5 * 65536, a6 * 65536, a7 * 65536, a8 * 65536, a9 * 65536, a10 * 65536, a11 * 65536, a12 * 65536, a13 * 65536, a14 * 65536, a15 * 65536] [b0 * 65536, b1 * 65536, b2 * 65536, b3 * 65536, b4 * 65536, b5 * 65536, b6 * 65536, b7 * 65536, b8 * 65536, b9 * 65536, b10 * 65536, b11 * 65536, b12 * 65536, b13 * 65536, b14 * 65536, b15 * 65536] 0 1 = s01 * 65536 := by rw [← es01]; exact (sc1 (a := a0) (b := a1) (c := a2) (d := a3) (e := b1) (f := b5) (g := b9) (h := b13))
    have hp02 : ent [a0 * 65536, a1 * 65536, a2 * 65536, a3 * 65536, a4 * 65536, a5 * 65536, a6 * 65536, a7 * 65536, a8 * 65536, a9 * 65536, a10 * 65536, a11 * 65536, a12 * 65536, a13 * 65536, a14 * 65536, a15 * 65536] [b0 * 65536, b1 * 65536, b2 * 65536, b3 * 65536, b4 * 65536, b5 * 65536, b6 * 65536, b7 * 65536, b8 * 65536, b9 * 65536, b10 * 65536, b11 * 65536, b12 * 65536, b13 * 65536, b14 * 65536, b15 * 65536] 0 2 = s02 * 65536 := by rw [← es02]; exact (sc1 (a := a0) (b := a1) (c := a2) (d := a3) (e := b2) (f := b6) (g := b10) (h := b14))
    have hp03 : ent [a0 * 65536, a1 * 65536, a2 * 65536, a3 * 65536, a4 * 65536, a5 * 65536, a6 * 65536, a7 * 65536, a8 * 65536, a9 * 65536, a10 * 65536, a11 * 65536, a12 * 65536, a13 * 65536, a14 * 65536, a15 * 65536] [b0 * 65536, b1 * 65536, b2 * 65536, b3 * 65536, b4 * 65536, b5 * 65536, b6 * 65536, b7 * 65536, b8 * 65536, b9 * 65536, b10 * 65536, b11 * 65536, b12 * 65536, b13 * 65536, b14 * 65536, b15 * 65536] 0 3 = s03 * 65536 := by rw [← es03]; exact (sc1 (a := a0) (b := a1) (c := a2) (d := a3) (e := b3) (f := b7) (g := b11) (h := b15))
    have hp10 : ent [a0 * 65536, a1 * 65536, a2 * 65536, a3 * 65536, a4 * 65536, a5 * 65536, a6 * 65536, a7 * 65536, a8 * 65536, a9 * 65536, a10 * 65536, a11 * 65536, a12 * 65536, a13 * 65536, a14 * 65536, a15 * 65536] [b0 * 65536, b1 * 65536, b2 * 65536, b3 * 65536, b4 * 65536, b5 * 65536, b6 * 65536, b7 * 65536, b8 * 65536, b9 * 65536, b10 * 65536, b11 * 65536, b12 * 65536, b13 * 65536, b14 * 65536, b15 * 65536] 1 0 = s10 * 65536 := by rw [← es10]; exact (sc1 (a := a4) (b := a5) (c := a6) (d := a7) (e := b0) (f := b4) (g := b8) (h := b12))
    have hp11 : ent [a0 * 65536, a1 * 65536, a2 * 65536, a3 * 65536, a4 * 65536, a5 * 65536, a6 * 65536, a7 * 65536, a8 * 65536, a9 * 65536, a10 * 65536, a11 * 65536, a12 * 65536, a13 * 65536, a14 * 65536, a15 * 65536] [b0 * 65536, b1 * 65536, b2 * 65536, b3 * 65536, b4 * 65536, b5 * 65536, b6 * 65536, b7 * 65536, b8 * 65536, b9 * 65536, b10 * 65536, b11 * 65536, b12 * 65536, b13 * 65536, b14 * 65536, b15 * 65536] 1 1 = s11 * 65536 := by rw [← es11]; exact (sc1 (a := a4) (b := a5) (c := a6) (d := a7) (e := b1) (f := b5) (g := b9) (h := b13))
    have hp12 : ent [a0 * 65536, a1 * 65536, a2 * 65536, a3 * 65536, a4 * 65536, a5 * 65536, a6 * 65536, a7 * 65536, a8 * 65536, a9 * 65536, a10 * 65536, a11 * 65536, a12 * 65536, a13 * 65536, a14 * 65536, a15 * 65536] [b0 * 65536, b1 * 65536, b2 * 65536, b3 * 65536, b4 * 65536, b5 * 65536, b6 * 65536, b7 * 65536, b8 * 65536, b9 * 65536, b10 * 65536, b11 * 65536, b12 * 65536, b13 * 65536, b14 * 65536, b15 * 65536] 1 2 = s12 * 65536 := by rw [← es12]; exact (sc1 (a := a4) (b := a5) (c := a6) (d := a7) (e := b2) (f := b6) (g := b10) (h := b14))
    have hp13 : ent [a0 * 65536, a1 * 65536, a2 * 65536, a3 * 65536, a4 * 65536, a5 * 65536, a6 * 65536, a7 * 65536, a8 * 65536, a9 * 65536, a10 * 65536, a11 * 65536, a12 * 65536, a13 * 65536, a14 * 65536, a15 * 65536] [b0 * 65536, b1 * 65536, b2 * 65536, b3 * 65536, b4 * 65536, b5 * 65536, b6 * 65536, b7 * 65536, b8 * 65536, b9 * 65536, b10 * 65536, b11 * 65536, b12 * 65536, b13 * 65536, b14 * 65536, b15 * 65536] 1 3 = s13 * 65536 := by rw [← es13]; exact (sc1 (a := a4) (b := a5) (c := a6) (d := a7) (e := b3) (f := b7) (g := b11) (h := b15))
    have hp20 : ent [a0 * 65536, a1 * 65536, a2 * 65536, a3 * 65536, a4 * 65536, a5 * 65536, a6 * 65536, a7 * 65536, a8 * 65536, a9 * 65536, a10 * 65536, a11 * 65536, a12 * 65536, a13 * 65536, a14 * 65536, a15 * 65536] [b0 * 65536, b1 * 65536, b2 * 65536, b3 * 65536, b4 * 65536, b5 * 65536, b6 * 65536, b7 * 65536, b8 * 65536, b9 * 65536, b10 * 65536, b11 * 65536, b12 * 65536, b13 * 65536, b14 * 65536, b15 * 65536] 2 0 = s20 * 65536 := by rw [← es20]; exact (sc1 (a := a8) (b := a9) (c := a10) (d := a11) (e := b0) (f := b4) (g := b8) (h := b12))
    have hp21 : ent [a0 * 65536, a1 * 65536, a2 * 65536, a3 * 65536, a4 * 65536, a5 * 65536, a6 * 65536, a7 * 65536, a8 * 65536, a9 * 65536, a10 * 65536, a11 * 65536, a12 * 65536, a13 * 65536, a14 * 65536, a15 * 65536] [b0 * 65536, b1 * 65536, b2 * 65536, b3 * 65536, b4 * 65536, b5 * 65536, b6 * 65536, b7 * 65536, b8 * 65536, b9 * 65536, b10 * 65536, b11 * 65536, b12 * 65536, b13 * 65536, b14 * 65536, b15 * 65536] 2 1 = s21 * 65536 := by rw [← es21]; exact (sc1 (a := a8) (b := a9) (c := a10) (d := a11) (e := b1) (f := b5) (g := b9) (h := b13))
    have hp22 : ent [a0 * 65536, a1 * 65536, a2 * 65536, a3 * 65536, a4 * 65536, a5 * 65536, a6 * 65536, a7 * 65536, a8 * 65536, a9 * 65536, a10 * 65536, a11 * 65536, a12 * 65536, a13 * 65536, a14 * 65536, a15 * 65536] [b0 * 65536, b1 * 65536, b2 * 65536, b3 * 65536, b4 * 65536, b5 * 65536, b6 * 65536, b7 * 65536, b8 * 65536, b9 * 65536, b10 * 65536, b11 * 65536, b12 * 65536, b13 * 65536, b14 * 65536, b15 * 65536] 2 2 = s22 * 65536 := by rw [← es22]; exact (sc1 (a := a8) (b := a9) (c := a10) (d := a11) (e := b2) (f := b6) (g := b10) (h := b14))
    have hp23 : ent [a0 * 65536, a1 * 65536, a2 * 65536, a3 * 65536, a4 * 65536, a5 * 65536, a6 * 65536, a7 * 65536, a8 * 65536, a9 * 65536, a10 * 65536, a11 * 65536, a12 * 65536, a13 * 65536, a14 * 65536, a15 * 65536] [b0 * 65536, b1 * 65536, b2 * 65536, b3 * 65536, b4 * 65536, b5 * 65536, b6 * 65536, b7 * 65536, b8 * 65536, b9 * 65536, b10 * 65536, b11 * 65536, b12 * 65536, b13 * 65536, b14 * 65536, b15 * 65536] 2 3 = s23 * 65536 := by rw [← es23]; exact (sc1 (a := a8) (b := a9) (c := a10) (d := a11) (e := b3) (f := b7) (g := b11) (h := b15))
    have hp30 : ent [a0 * 65536, a1 * 65536, a2 * 65536, a3 * 65536, a4 * 65536, a5 * 65536, a6 * 65536, a7 * 65536, a8 * 65536, a9 * 65536, a10 * 65536, a11 * 65536, a12 * 65536, a13 * 65536, a14 * 65536, a15 * 65536] [b0 * 65536, b1 * 65536, b2 * 65536, b3 * 65536, b4 * 65536, b5 * 65536, b6 * 65536, b7 * 65536, b8 * 65536, b9 * 65536, b10 * 65536, b11 * 65536, b12 * 65536, b13 * 65536, b14 * 65536, b15 * 65536] 3 0 = s30 * 65536 := by rw [← es30]; exact (sc1 (a := a12) (b := a13) (c := a14) (d := a15) (e := b0) (f := b4) (g := b8) (h := b12))
    have hp31 : ent [a0 * 65536, a1 * 65536, a2 * 65536, a3 * 65536, a4 * 65536, a5 * 65536, a6 * 65536, a7 * 65536, a8 * 65536, a9 * 65536, a10 * 65536, a11 * 65536, a12 * 65536, a13 * 65536, a14 * 65536, a15 * 65536] [b0 * 65536, b1 * 65536, b2 * 65536, b3 * 65536, b4 * 65536, b5 * 65536, b6 * 65536, b7 * 65536, b8 * 65536, b9 * 65536, b10 * 65536, b11 * 65536, b12 * 65536, b13 * 65536, b14 * 65536, b15 * 65536] 3 1 = s31 * 65536 := by rw [← es31]; exact (sc1 (a := a12) (b := a13) (c := a14) (d := a15) (e := b1) (f := b5) (g := b9) (h := b13))
    have hp32 : ent [a0 * 65536, a1 * 65536, a2 * 65536, a3 * 65536, a4 * 65536, a5 * 65536, a6 * 65536, a7 * 65536, a8 * 65536, a9 * 65536, a10 * 65536, a11 * 65536, a12 * 65536, a13 * 65536, a14 * 65536, a15 * 65536] [b0 * 65536, b1 * 65536, b2 * 65536, b3 * 65536, b4 * 65536, b5 * 65536, b6 * 65536, b7 * 65536, b8 * 65536, b9 * 65536, b10 * 65536, b11 * 65536, b12 * 65536, b13 * 65536, b14 * 65536, b15 * 65536] 3 2 = s32 * 65536 := by rw [← es32]; exact (sc1 (a := a12) (b := a13) (c := a14) (d := a15) (e := b2) (f := b6) (g := b10) (h := b14))
    have hp33 : ent [a0 * 65536, a1 * 65536, a2 * 65536, a3 * 65536, a4 * 65536, a5 * 65536, a6 * 65536, a7 * 65536, a8 * 65536, a9 * 65536, a10 * 65536, a11 * 65536, a12 * 65536, a13 * 65536, a14 * 65536, a15 * 65536] [b0 * 65536, b1 * 65536, b2 * 65536, b3 * 65536, b4 * 65536, b5 * 65536, b6 * 65536, b7 * 65536, b8 * 65536, b9 * 65536, b10 * 65536, b11 * 65536, b12 * 65536, b13 * 65536, b14 * 65536, b15 * 65536] 3 3 = s33 * 65536 := by rw [← es33]; exact (sc1 (a := a12) (b := a13) (c := a14) (d := a15) (e := b3) (f := b7) (g := b11) (h := b15))
    have hprod : prodL [a0 * 65536, a1 * 65536, a2 * 65536, a3 * 65536, a4 * 65536, a5 * 65536, a6 * 65536, a7 * 65536, a8 * 65536, a9 * 65536, a10 * 65536, a11 * 65536, a12 * 65536, a13 * 65536, a14 * 65536, a15 * 65536] [b0 * 65536, b1 * 65536, b2 * 65536, b3 * 65536, b4 * 65536, b5 * 65536, b6 * 65536, b7 * 65536, b8 * 65536, b9 * 65536, b10 * 65536, b11 * 65536, b12 * 65536, b13 * 65536, b14 * 65536, b15 * 65536] = [s00 * 65536, s01 * 65536, s02 * 65536, s03 * 65536, s10 * 65536, s11 * 65536, s12 * 65536, s13 * 65536, s20 * 65536, s21 * 65536, s22 * 65536, s23 * 65536, s30 * 65536, s31 * 65536, s32 * 65536, s33 * 65536] := by
      unfold prodL
      rw [hp00, hp01, hp02, hp03, hp10, hp11, hp12, hp13, hp20, hp21, hp22, hp23, hp30, hp31, hp32, hp33]
    have hf00 : ent [b0 * 65536, b4 * 65536, b8 * 65536, b12 * 65536, b1 * 65536, b5 * 65536, b9 * 65536, b13 * 65536, b2 * 65536, b6 * 65536, b10 * 65536, b14 * 65536, b3 * 65536, b7 * 65536, b11 * 65536, b15 * 65536] [a0 * 65536, a4 * 65536, a8 * 65536, a12 * 65536, a1 * 65536, a5 * 65536, a9 * 65536, a13 * 65536, a2 * 65536, a6 * 65536, a10 * 65536, a14 * 65536, a3 * 65536, a7 * 65536, a11 * 65536, a15 * 65536] 0 0 = s00 * 65536 := by
      rw [← es00, show a0 * b0 + a1 * b4 + a2 * b8 + a3 * b12 = b0 * a0 + b4 * a1 + b8 * a2 + b12 * a3 from by grind]
      exact (sc1 (a := b0) (b := b4) (c := b8) (d := b12) (e := a0) (f := a1) (g := a2) (h := a3))
    have hf01 : ent [b0 * 65536, b4 * 65536, b8 * 65536, b12 * 65536, b1 * 65536, b5 * 65536, b9 * 65536, b13 * 65536, b2 * 65536, b6 * 65536, b10 * 65536, b14 * 65536, b3 * 65536, b7 * 65536, b11 * 65536, b15 * 65536] [a0 * 65536, a4 * 65536, a8 * 65536, a12 * 65536, a1 * 65536, a5 * 65536, a9 * 65536, a13 * 65536, a2 * 65536, a6 * 65536, a10 * 65536, a14 * 65536, a3 * 65536, a7 * 65536, a11 * 65536, a15 * 65536] 0 1 = s10 * 65536 := by
      rw [← es10, show a4 * b0 + a5 * b4 + a6 * b8 + a7 * b12 = b0 * a4 + b4 * a5 + b8 * a6 + b12 * a7 from by grind]
      exact (sc1 (a := b0) (b := b4) (c := b8) (d := b12) (e := a4) (f := a5) (g := a6) (h := a7))
    have hf02 : ent [b0 * 65536, b4 * 65536, b8 * 65536, b12 * 65536, b1 * 65536, b5 * 65536, b9 * 65536, b13 * 65536, b2 * 65536, b6 * 65536, b10 * 65536, b14 * 65536, b3 * 65536, b7 * 65536, b11 * 65536, b15 * 65536] [a0 * 65536, a4 * 65536, a8 * 65536, a12 * 65536, a1 * 65536, a5 * 65536, a9 * 65536, a13 * 65536, a2 * 65536, a6 * 65536, a10 * 65536, a14 * 65536, a3 * 65536, a7 * 65536, a11 * 65536, a15 * 65536] 0 2 = s20 * 65536 := by
      rw [← es20, show a8 * b0 + a9 * b4 + a10 * b8 + a11 * b12 = b0 * a8 + b4 * a9 + b8 * a10 + b12 * a11 from by grind]
      exact (sc1 (a := b0) (b := b4) (c := b8) (d := b12) (e := a8) (f := a9) (g := a10) (h := a11))
    have hf03 : ent [b0 * 65536, b4 * 65536, b8 * 65536, b12 * 65536, b1 * 65536, b5 * 65536, b9 * 65536, b13 * 65536, b2 * 65536, b6 * 65536, b10 * 65536, b14 * 65536, b3 * 65536, b7 * 65536, b11 * 65536, b15 * 65536] [a0 * 65536, a4 * 65536, a8 * 65536, a12 * 65536, a1 * 65536, a5 * 65536, a9 * 65536, a13 * 65536, a2 * 65536, a6 * 65536, a10 * 65536, a14 * 65536, a3 * 65536, a7 * 65536, a11 * 65536, a15 * 65536] 0 3 = s30 * 65536 := by
      rw [← es30, show a12 * b0 + a13 * b4 + a14 * b8 + a15 * b12 = b0 * a12 + b4 * a13 + b8 * a14 + b12 * a15 from by grind]
      exact (sc1 (a := b0) (b := b4) (c := b8) (d := b12) (e := a12) (f := a13) (g := a14) (h := a15))
    have hf10 : ent [b0 * 65536, b4 * 65536, b8 * 65536, b12 * 65536, b1 * 65536, b5 * 65536, b9 * 65536, b13 * 65536, b2 * 65536, b6 * 65536, b10 * 65536, b14 * 65536, b3 * 65536, b7 * 65536, b11 * 65536, b15 * 65536] [a0 * 65536, a4 * 65536, a8 * 65536, a12 * 65536, a1 * 65536, a5 * 65536, a9 * 65536, a13 * 65536, a2 * 65536, a6 * 65536, a10 * 65536, a14 * 65536, a3 * 65536, a7 * 65536, a11 * 65536, a15 * 65536] 1 0 = s01 * 65536 := by
      rw [← es01, show a0 * b1 + a1 * b5 + a2 * b9 + a3 * b13 = b1 * a0 + b5 * a1 + b9 * a2 + b13 * a3 from by grind]
      exact (sc1 (a := b1) (b := b5) (c := b9) (d := b13) (e := a0) (f := a1) (g := a2) (h := a3))
    have hf11 : ent [b0 * 65536, b4 * 65536, b8 * 65536, b12 * 65536, b1 * 65536, b5 * 65536, b9 * 65536, b13 * 65536, b2 * 65536, b6 * 65536, b10 * 65536, b14 * 65536, b3 * 65536, b7 * 65536, b11 * 65536, b15 * 65536] [a0 * 65536, a4 * 65536, a8 * 65536, a12 * 65536, a1 * 65536, a5 * 65536, a9 * 65536, a13 * 65536, a2 * 65536, a6 * 65536, a10 * 65536, a14 * 65536, a3 * 65536, a7 * 65536, a11 * 65536, a15 * 65536] 1 1 = s11 * 65536 := by
      rw [← es11, show a4 * b1 + a5 * b5 + a6 * b9 + a7 * b13 = b1 * a4 + b5 * a5 + b9 * a6 + b13 * a7 from by grind]
      exact (sc1 (a := b1) (b := b5) (c := b9) (d := b13) (e := a4) (f := a5) (g := a6) (h := a7))
    have hf12 : ent [b0 * 65536, b4 * 65536, b8 * 65536, b12 * 65536, b1 * 65536, b5 * 65536, b9 * 65536, b13 * 65536, b2 * 65536, b6 * 65536, b10 * 65536, b14 * 65536, b3 * 65536, b7 * 65536, b11 * 65536, b15 * 65536] [a0 * 65536, a4 * 65536, a8 * 65536, a12 * 65536, a1 * 65536, a5 * 65536, a9 * 65536, a13 * 65536, a2 * 65536, a6 * 65536, a10 * 65536, a14 * 65536, a3 * 65536, a7 * 65536, a11 * 65536, a15 * 65536] 1 2 = s21 * 65536 := by
      rw [← es21, show a8 * b1 + a9 * b5 + a10 * b9 + a11 * b13 = b1 * a8 + b5 * a9 + b9 * a10 + b13 * a11 from by grind]
      exact (sc1 (a := b1) (b := b5) (c := b9) (d := b13) (e := a8) (f := a9) (g := a10) (h := a11))
    have hf13 : ent [b0 * 65536, b4 * 65536, b8 * 65536, b12 * 65536, b1 * 65536, b5 * 65536, b9 * 65536, b13 * 65536, b2 * 65536, b6 * 65536, b10 * 65536, b14 * 65536, b3 * 65536, b7 * 65536, b11 * 65536, b15 * 65536] [a0 * 65536, a4 * 65536, a8 * 65536, a12 * 65536, a1 * 65536, a5 * 65536, a9 * 65536, a13 * 65536, a2 * 65536, a6 * 65536, a10 * 65536, a14 * 65536, a3 * 65536, a7 * 65536, a11 * 65536, a15 * 65536] 1 3 = s31 * 65536 := by
      rw [← es31, show a12 * b1 + a13 * b5 + a14 * b9 + a15 * b13 = b1 * a12 + b5 * a13 + b9 * a14 + b13 * a15 from by grind]
      exact (sc1 (a := b1) (b := b5) (c := b9) (d := b13) (e := a12) (f := a13) (g := a14) (h := a15))
    have hf20 : ent [b0 * 65536, b4 * 65536, b8 * 65536, b12 * 65536, b1 * 65536, b5 * 65536, b9 * 65536, b13 * 65536, b2 * 65536, b6 * 65536, b10 * 65536, b14 * 65536, b3 * 65536, b7 * 65536, b11 * 65536, b15 * 65536] [a0 * 65536, a4 * 65536, a8 * 65536, a12 * 65536, a1 * 65536, a5 * 65536, a9 * 65536, a13 * 65536, a2 * 65536, a6 * 65536, a10 * 65536, a14 * 65536, a3 * 65536, a7 * 65536, a11 * 65536, a15 * 65536] 2 0 = s02 * 65536 := by
      rw [← es02, show a0 * b2 + a1 * b6 + a2 * b10 + a3 * b14 = b2 * a0 + b6 * a1 + b10 * a2 + b14 * a3 from by grind]
      exact (sc1 (a := b2) (b := b6) (c := b10) (d := b14) (e := a0) (f := a1) (g := a2) (h := a3))
    have hf21 : ent [b0 * 65536, b4 * 65536, b8 * 65536, b12 * 65536, b1 * 65536, b5 * 65536, b9 * 65536, b13 * 65536, b2 * 65536, b6 * 65536, b10 * 65536, b14 * 65536, b3 * 65536, b7 * 65536, b11 * 65536, b15 * 65536] [a0 * 65536, a4 * 65536, a8 * 65536, a12 * 65536, a1 * 65536, a5 * 65536, a9 * 65536, a13 * 65536, a2 * 65536, a6 * 65536, a10 * 65536, a14 * 65536, a3 * 65536, a7 * 65536, a11 * 65536, a15 * 65536] 2 1 = s12 * 65536 := by
      rw [← es12, show a4 * b2 + a5 * b6 + a6 * b10 + a7 * b14 = b2 * a4 + b6 * a5 + b10 * a6 + b14 * a7 from by grind]
      exact (sc1 (a := b2) (b := b6) (c := b10) (d := b14) (e := a4) (f := a5) (g := a6) (h := a7))
    have hf22 : ent [b0 * 65536, b4 * 65536, b8 * 65536, b12 * 65536, b1 * 65536, b5 * 65536, b9 * 65536, b13 * 65536, b2 * 65536, b6 * 65536, b10 * 65536, b14 * 65536, b3 * 65536, b7 * 65536, b11 * 65536, b15 * 65536] [a0 * 65536, a4 * 65536, a8 * 65536, a12 * 65536, a1 * 65536, a5 * 65536, a9 * 65536, a13 * 65536, a2 * 65536, a6 * 65536, a10 * 65536, a14 * 65536, a3 * 65536, a7 * 65536, a11 * 65536, a15 * 65536] 2 2 = s22 * 65536 := by
      rw [← es22, show a8 * b2 + a9 * b6 + a10 * b10 + a11 * b14 = b2 * a8 + b6 * a9 + b10 * a10 + b14 * a11 from by grind]
      exact (sc1 (a := b2) (b := b6) (c := b10) (d := b14) (e := a8) (f := a9) (g := a10) (h := a11))
    have hf23 : ent [b0 * 65536, b4 * 65536, b8 * 65536, b12 * 65536, b1 * 65536, b5 * 65536, b9 * 65536, b13 * 65536, b2 * 65536, b6 * 65536, b10 * 65536, b14 * 65536, b3 * 65536, b7 * 65536, b11 * 65536, b15 * 65536] [a0 * 65536, a4 * 65536, a8 * 65536, a12 * 65536, a1 * 65536, a5 * 65536, a9 * 65536, a13 * 65536, a2 * 65536, a6 * 65536, a10 * 65536, a14 * 65536, a3 * 65536, a7 * 65536, a11 * 65536, a15 * 65536] 2 3 = s32 * 65536 := by
      rw [← es32, show a12 * b2 + a13 * b6 + a14 * b10 + a15 * b14 = b2 * a12 + b6 * a13 + b10 * a14 + b14 * a15 from by grind]
      exact (sc1 (a := b2) (b := b6) (c := b10) (d := b14) (e := a12) (f := a13) (g := a14) (h := a15))
    have hf30 : ent [b0 * 65536, b4 * 65536, b8 * 65536, b12 * 65536, b1 * 65536, b5 * 65536, b9 * 65536, b13 * 65536, b2 * 65536, b6 * 65536, b10 * 65536, b14 * 65536, b3 * 65536, b7 * 65536, b11 * 65536, b15 * 65536] [a0 * 65536, a4 * 65536, a8 * 65536, a12 * 65536, a1 * 65536, a5 * 65536, a9 * 65536, a13 * 65536, a2 * 65536, a6 * 65536, a10 * 65536, a14 * 65536, a3 * 65536, a7 * 65536, a11 * 65536, a15 * 65536] 3 0 = s03 * 65536 := by
      rw [← es03, show a0 * b3 + a1 * b7 + a2 * b11 + a3 * b15 = b3 * a0 + b7 * a1 + b11 * a2 + b15 * a3 from by grind]
      exact (sc1 (a := b3) (b := b7) (c := b11) (d := b15) (e := a0) (f := a1) (g := a2) (h := a3))
    have hf31 : ent [b0 * 65536, b4 * 65536, b8 * 65536, b12 * 65536, b1 * 65536, b5 * 65536, b9 * 65536, b13 * 65536, b2 * 65536, b6 * 65536, b10 * 65536, b14 * 65536, b3 * 65536, b7 * 65536, b11 * 65536, b15 * 65536] [a0 * 65536, a4 * 65536, a8 * 65536, a12 * 65536, a1 * 65536, a5 * 65536, a9 * 65536, a13 * 65536, a2 * 65536, a6 * 65536, a10 * 65536, a14 * 65536, a3 * 65536, a7 * 65536, a11 * 65536, a15 * 65536] 3 1 = s13 * 65536 := by
      rw [← es13, show a4 * b3 + a5 * b7 + a6 * b11 + a7 * b15 = b3 * a4 + b7 * a5 + b11 * a6 + b15 * a7 from by grind]
      exact (sc1 (a := b3) (b := b7) (c := b11) (d := b15) (e := a4) (f := a5) (g := a6) (h := a7))
    have hf32 : ent [b0 * 65536, b4 * 65536, b8 * 65536, b12 * 65536, b1 * 65536, b5 * 65536, b9 * 65536, b13 * 65536, b2 * 65536, b6 * 65536, b10 * 65536, b14 * 65536, b3 * 65536, b7 * 65536, b11 * 65536, b15 * 65536] [a0 * 65536, a4 * 65536, a8 * 65536, a12 * 65536, a1 * 65536, a5 * 65536, a9 * 65536, a13 * 65536, a2 * 65536, a6 * 65536, a10 * 65536, a14 * 65536, a3 * 65536, a7 * 65536, a11 * 65536, a15 * 65536] 3 2 = s23 * 65536 := by
      rw [← es23, show a8 * b3 + a9 * b7 + a10 * b11 + a11 * b15 = b3 * a8 + b7 * a9 + b11 * a10 + b15 * a11 from by grind]
      exact (sc1 (a := b3) (b := b7) (c := b11) (d := b15) (e := a8) (f := a9) (g := a10) (h := a11))
    have hf33 : ent [b0 * 65536, b4 * 65536, b8 * 65536, b12 * 65536, b1 * 65536, b5 * 65536, b9 * 65536, b13 * 65536, b2 * 65536, b6 * 65536, b10 * 65536, b14 * 65536, b3 * 65536, b7 * 65536, b11 * 65536, b15 * 65536] [a0 * 65536, a4 * 65536, a8 * 65536, a12 * 65536, a1 * 65536, a5 * 65536, a9 * 65536, a13 * 65536, a2 * 65536, a6 * 65536, a10 * 65536, a14 * 65536, a3 * 65536, a7 * 65536, a11 * 65536, a15 * 65536] 3 3 = s33 * 65536 := by
      rw [← es33, show a12 * b3 + a13 * b7 + a14 * b11 + a15 * b15 = b3 * a12 + b7 * a13 + b11 * a14 + b15 * a15 from by grind]
      exact (sc1 (a := b3) (b := b7) (c := b11) (d := b15) (e := a12) (f := a13) (g := a14) (h := a15))
    have hfprod : prodL [b0 * 65536, b4 * 65536, b8 * 65536, b12 * 65536, b1 * 65536, b5 * 65536, b9 * 65536, b13 * 65536, b2 * 65536, b6 * 65536, b10 * 65536, b14 * 65536, b3 * 65536, b7 * 65536, b11 * 65536, b15 * 65536] [a0 * 65536, a4 * 65536, a8 * 65536, a12 * 65536, a1 * 65536, a5 * 65536, a9 * 65536, a13 * 65536, a2 * 65536, a6 * 65536, a10 * 65536, a14 * 65536, a3 * 65536, a7 * 65536, a11 * 65536, a15 * 65536] = [s00 * 65536, s10 * 65536, s20 * 65536, s30 * 65536, s01 * 65536, s11 * 65536, s21 * 65536, s31 * 65536, s02 * 65536, s12 * 65536, s22 * 65536, s32 * 65536, s03 * 65536, s13 * 65536, s23 * 65536, s33 * 65536] := by
      unfold prodL
      rw [hf00, hf01, hf02, hf03, hf10, hf11, hf12, hf13, hf20, hf21, hf22, hf23, hf30, hf31, hf32, hf33]
    have bx0 := bd4 (M := 9) (K := 32768) (by omega) (by omega) nb0 nb1 nb2 nb3 hw0 hw1 hw2 hw3
    obtain ⟨w0, ew0⟩ : ∃ z, b0 * x32 + b1 * x33 + b2 * x34 + b3 * x35 = z := ⟨_, rfl⟩
    rw [ew0] at bx0
    have bx1 := bd4 (M := 9) (K := 32768) (by omega) (by omega) nb4 nb5 nb6 nb7 hw0 hw1 hw2 hw3
    obtain ⟨w1, ew1⟩ : ∃ z, b4 * x32 + b5 * x33 + b6 * x34 + b7 * x35 = z := ⟨_, rfl⟩
    rw [ew1] at bx1
    have bx2 := bd4 (M := 9) (K := 32768) (by omega) (by omega) nb8 nb9 nb10 nb11 hw0 hw1 hw2 hw3
    obtain ⟨w2, ew2⟩ : ∃ z, b8 * x32 + b9 * x33 + b10 * x34 + b11 * x35 = z := ⟨_, rfl⟩
    rw [ew2] at bx2
    have bx3 := bd4 (M := 9) (K := 32768) (by omega) (by omega) nb12 nb13 nb14 nb15 hw0 hw1 hw2 hw3
    obtain ⟨w3, ew3⟩ : ∃ z, b12 * x32 + b13 * x33 + b14 * x34 + b15 * x35 = z := ⟨_, rfl⟩
    rw [ew3] at bx3
    have by0 := bd4 (M := 9) (K := 1179648) (by omega) (by omega) na0 na1 na2 na3 (by omega) (by omega) (by omega) (by omega) (e := w0) (f := w1) (g := w2) (h := w3)
    obtain ⟨y0, ey0⟩ : ∃ z, a0 * w0 + a1 * w1 + a2 * w2 + a3 * w3 = z := ⟨_, rfl⟩
    rw [ey0] at by0
    have ez0 : s00 * x32 + s01 * x33 + s02 * x34 + s03 * x35 = y0 := by rw [← ey0, ← es00, ← es01, ← es02, ← es03, ← ew0, ← ew1, ← ew2, ← ew3]; grind
    have by1 := bd4 (M := 9) (K := 1179648) (by omega) (by omega) na4 na5 na6 na7 (by omega) (by omega) (by omega) (by omega) (e := w0) (f := w1) (g := w2) (h := w3)
    obtain ⟨y1, ey1⟩ : ∃ z, a4 * w0 + a5 * w1 + a6 * w2 + a7 * w3 = z := ⟨_, rfl⟩
    rw [ey1] at by1
    have ez1 : s10 * x32 + s11 * x33 + s12 * x34 + s13 * x35 = y1 := by rw [← ey1, ← es10, ← es11, ← es12, ← es13, ← ew0, ← ew1, ← ew2, ← ew3]; grind
    have by2 := bd4 (M := 9) (K := 1179648) (by omega) (by omega) na8 na9 na10 na11 (by omega) (by omega) (by omega) (by omega) (e := w0) (f := w1) (g := w2) (h := w3)
    obtain ⟨y2, ey2⟩ : ∃ z, a8 * w0 + a9 * w1 + a10 * w2 + a11 * w3 = z := ⟨_, rfl⟩
    rw [ey2] at by2
    have ez2 : s20 * x32 + s21 * x33 + s22 * x34 + s23 * x35 = y2 := by rw [← ey2, ← es20, ← es21, ← es22, ← es23, ← ew0, ← ew1, ← ew2, ← ew3]; grind
    have by3 := bd4 (M := 9) (K := 1179648) (by omega) (by omega) na12 na13 na14 na15 (by omega) (by omega) (by omega) (by omega) (e := w0) (f := w1) (g := w2) (h := w3)
    obtain ⟨y3, ey3⟩ : ∃ z, a12 * w0 + a13 * w1 + a14 * w2 + a15 * w3 = z := ⟨_, rfl⟩
    rw [ey3] at by3
    have ez3 : s30 * x32 + s31 * x33 + s32 * x34 + s33 * x35 = y3 := by rw [← ey3, ← es30, ← es31, ← es32, ← es33, ← ew0, ← ew1, ← ew2, ← ew3]; grind
    have rw4 : rightP [x32, x33, x34, x35] := by
      intro z hz
      simp only [List.mem_cons, List.not_mem_nil, or_false] at hz
      rcases hz with rfl | rfl | rfl | rfl <;> unfold inB <;> omega
    have rx4 : rightP [w0, w1, w2, w3] := by
      intro z hz
      simp only [List.mem_cons, List.not_mem_nil, or_false] at hz
      rcases hz with rfl | rfl | rfl | rfl <;> unfold inB <;> omega
    have nx4 : near 68719476736 [w0, w1, w2, w3] := by
      intro z hz
      simp only [List.mem_cons, List.not_mem_nil, or_false] at hz
      rcases hz with rfl | rfl | rfl | rfl <;> omega
    have ny4 : near 68719476736 [y0, y1, y2, y3] := by
      intro z hz
      simp only [List.mem_cons, List.not_mem_nil, or_false] at hz
      rcases hz with rfl | rfl | rfl | rfl <;> omega
    have px0 : appE1 [b0 * 65536, b1 * 65536, b2 * 65536, b3 * 65536, b4 * 65536, b5 * 65536, b6 * 65536, b7 * 65536, b8 * 65536, b9 * 65536, b10 * 65536, b11 * 65536, b12 * 65536, b13 * 65536, b14 * 65536, b15 * 65536] [x32, x33, x34, x35] 0 = w0 := by rw [← ew0]; exact (sc2 (a := b0) (b := b1) (c := b2) (d := b3) (e := x32) (f := x33) (g := x34) (h := x35))
    have px1 : appE1 [b0 * 65536, b1 * 65536, b2 * 65536, b3 * 65536, b4 * 65536, b5 * 65536, b6 * 65536, b7 * 65536, b8 * 65536, b9 * 65536, b10 * 65536, b11 * 65536, b12 * 65536, b13 * 65536, b14 * 65536, b15 * 65536] [x32, x33, x34, x35] 1 = w1 := by rw [← ew1]; exact (sc2 (a := b4) (b := b5) (c := b6) (d := b7) (e := x32) (f := x33) (g := x34) (h := x35))
    have px2 : appE1 [b0 * 65536, b1 * 65536, b2 * 65536, b3 * 65536, b4 * 65536, b5 * 65536, b6 * 65536, b7 * 65536, b8 * 65536, b9 * 65536, b10 * 65536, b11 * 65536, b12 * 65536, b13 * 65536, b14 * 65536, b15 * 65536] [x32, x33, x34, x35] 2 = w2 := by rw [← ew2]; exact (sc2 (a := b8) (b := b9) (c := b10) (d := b11) (e := x32) (f := x33) (g := x34) (h := x35))
    have px3 : appE1 [b0 * 65536, b1 * 65536, b2 * 65536, b3 * 65536, b4 * 65536, b5 * 65536, b6 * 65536, b7 * 65536, b8 * 65536, b9 * 65536, b10 * 65536, b11 * 65536, b12 * 65536, b13 * 65536, b14 * 65536, b15 * 65536] [x32, x33, x34, x35] 3 = w3 := by rw [← ew3]; exact (sc2 (a := b12) (b := b13) (c := b14) (d := b15) (e := x32) (f := x33) (g := x34) (h := x35))
    have px : appL [b0 * 65536, b1 * 65536, b2 * 65536, b3 * 65536, b4 * 65536, b5 * 65536, b6 * 65536, b7 * 65536, b8 * 65536, b9 * 65536, b10 * 65536, b11 * 65536, b12 * 65536, b13 * 65536, b14 * 65536, b15 * 65536] [x32, x33, x34, x35] = [w0, w1, w2, w3] := by
      unfold appL
      rw [px0, px1, px2, px3]
    have py0 : appE1 [a0 * 65536, a1 * 65536, a2 * 65536, a3 * 65536, a4 * 65536, a5 * 65536, a6 * 65536, a7 * 65536, a8 * 65536, a9 * 65536, a10 * 65536, a11 * 65536, a12 * 65536, a13 * 65536, a14 * 65536, a15 * 65536] [w0, w1, w2, w3] 0 = y0 := by rw [← ey0]; exact (sc2 (a := a0) (b := a1) (c := a2) (d := a3) (e := w0) (f := w1) (g := w2) (h := w3))
    have py1 : appE1 [a0 * 65536, a1 * 65536, a2 * 65536, a3 * 65536, a4 * 65536, a5 * 65536, a6 * 65536, a7 * 65536, a8 * 65536, a9 * 65536, a10 * 65536, a11 * 65536, a12 * 65536, a13 * 65536, a14 * 65536, a15 * 65536] [w0, w1, w2, w3] 1 = y1 := by rw [← ey1]; exact (sc2 (a := a4) (b := a5) (c := a6) (d := a7) (e := w0) (f := w1) (g := w2) (h := w3))
    have py2 : appE1 [a0 * 65536, a1 * 65536, a2 * 65536, a3 * 65536, a4 * 65536, a5 * 65536, a6 * 65536, a7 * 65536, a8 * 65536, a9 * 65536, a10 * 65536, a11 * 65536, a12 * 65536, a13 * 65536, a14 * 65536, a15 * 65536] [w0, w1, w2, w3] 2 = y2 := by rw [← ey2]; exact (sc2 (a := a8) (b := a9) (c := a10) (d := a11) (e := w0) (f := w1) (g := w2) (h := w3))
    have py3 : appE1 [a0 * 65536, a1 * 65536, a2 * 65536, a3 * 65536, a4 * 65536, a5 * 65536, a6 * 65536, a7 * 65536, a8 * 65536, a9 * 65536, a10 * 65536, a11 * 65536, a12 * 65536, a13 * 65536, a14 * 65536, a15 * 65536] [w0, w1, w2, w3] 3 = y3 := by rw [← ey3]; exact (sc2 (a := a12) (b := a13) (c := a14) (d := a15) (e := w0) (f := w1) (g := w2) (h := w3))
    have py : appL [a0 * 65536, a1 * 65536, a2 * 65536, a3 * 65536, a4 * 65536, a5 * 65536, a6 * 65536, a7 * 65536, a8 * 65536, a9 * 65536, a10 * 65536, a11 * 65536, a12 * 65536, a13 * 65536, a14 * 65536, a15 * 65536] [w0, w1, w2, w3] = [y0, y1, y2, y3] := by
      unfold appL
      rw [py0, py1, py2, py3]
    have pz0 : appE1 [s00 * 65536, s01 * 65536, s02 * 65536, s03 * 65536, s10 * 65536, s11 * 65536, s12 * 65536, s13 * 65536, s20 * 65536, s21 * 65536, s22 * 65536, s23 * 65536, s30 * 65536, s31 * 65536, s32 * 65536, s33 * 65536] [x32, x33, x34, x35] 0 = y0 := by rw [← ez0]; exact (sc2 (a := s00) (b := s01) (c := s02) (d := s03) (e := x32) (f := x33) (g := x34) (h := x35))
    have pz1 : appE1 [s00 * 65536, s01 * 65536, s02 * 65536, s03 * 65536, s10 * 65536, s11 * 65536, s12 * 65536, s13 * 65536, s20 * 65536, s21 * 65536, s22 * 65536, s23 * 65536, s30 * 65536, s31 * 65536, s32 * 65536, s33 * 65536] [x32, x33, x34, x35] 1 = y1 := by rw [← ez1]; exact (sc2 (a := s10) (b := s11) (c := s12) (d := s13) (e := x32) (f := x33) (g := x34) (h := x35))
    have pz2 : appE1 [s00 * 65536, s01 * 65536, s02 * 65536, s03 * 65536, s10 * 65536, s11 * 65536, s12 * 65536, s13 * 65536, s20 * 65536, s21 * 65536, s22 * 65536, s23 * 65536, s30 * 65536, s31 * 65536, s32 * 65536, s33 * 65536] [x32, x33, x34, x35] 2 = y2 := by rw [← ez2]; exact (sc2 (a := s20) (b := s21) (c := s22) (d := s23) (e := x32) (f := x33) (g := x34) (h := x35))
    have pz3 : appE1 [s00 * 65536, s01 * 65536, s02 * 65536, s03 * 65536, s10 * 65536, s11 * 65536, s12 * 65536, s13 * 65536, s20 * 65536, s21 * 65536, s22 * 65536, s23 * 65536, s30 * 65536, s31 * 65536, s32 * 65536, s33 * 65536] [x32, x33, x34, x35] 3 = y3 := by rw [← ez3]; exact (sc2 (a := s30) (b := s31) (c := s32) (d := s33) (e := x32) (f := x33) (g := x34) (h := x35))
    have pz : appL [s00 * 65536, s01 * 65536, s02 * 65536, s03 * 65536, s10 * 65536, s11 * 65536, s12 * 65536, s13 * 65536, s20 * 65536, s21 * 65536, s22 * 65536, s23 * 65536, s30 * 65536, s31 * 65536, s32 * 65536, s33 * 65536] [x32, x33, x34, x35] = [y0, y1, y2, y3] := by
      unfold appL
      rw [pz0, pz1, pz2, pz3]
    refine h_call (c := cMul sg12) rfl trivial fun rs hk hr => ?_
    have hr : rs = List.map DV.i [mulI [x0.tmod 10 * 65536, x1.tmod 10 * 65536, x2.tmod 10 * 65536, x3.tmod 10 * 65536, x4.tmod 10 * 65536, x5.tmod 10 * 65536, x6.tmod 10 * 65536, x7.tmod 10 * 65536, x8.tmod 10 * 65536, x9.tmod 10 * 65536, x10.tmod 10 * 65536, x11.tmod 10 * 65536, x12.tmod 10 * 65536, x13.tmod 10 * 65536, x14.tmod 10 * 65536, x15.tmod 10 * 65536] [x16.tmod 10 * 65536, x17.tmod 10 * 65536, x18.tmod 10 * 65536, x19.tmod 10 * 65536, x20.tmod 10 * 65536, x21.tmod 10 * 65536, x22.tmod 10 * 65536, x23.tmod 10 * 65536, x24.tmod 10 * 65536, x25.tmod 10 * 65536, x26.tmod 10 * 65536, x27.tmod 10 * 65536, x28.tmod 10 * 65536, x29.tmod 10 * 65536, x30.tmod 10 * 65536, x31.tmod 10 * 65536] 0, mulI [x0.tmod 10 * 65536, x1.tmod 10 * 65536, x2.tmod 10 * 65536, x3.tmod 10 * 65536, x4.tmod 10 * 65536, x5.tmod 10 * 65536, x6.tmod 10 * 65536, x7.tmod 10 * 65536, x8.tmod 10 * 65536, x9.tmod 10 * 65536, x10.tmod 10 * 65536, x11.tmod 10 * 65536, x12.tmod 10 * 65536, x13.tmod 10 * 65536, x14.tmod 10 * 65536, x15.tmod 10 * 65536] [x16.tmod 10 * 65536, x17.tmod 10 * 65536, x18.tmod 10 * 65536, x19.tmod 10 * 65536, x20.tmod 10 * 65536, x21.tmod 10 * 65536, x22.tmod 10 * 65536, x23.tmod 10 * 65536, x24.tmod 10 * 65536, x25.tmod 10 * 65536, x26.tmod 10 * 65536, x27.tmod 10 * 65536, x28.tmod 10 * 65536, x29.tmod 10 * 65536, x30.tmod 10 * 65536, x31.tmod 10 * 65536] 1, mulI [x0.tmod 10 * 65536, x1.tmod 10 * 65536, x2.tmod 10 * 65536, x3.tmod 10 * 65536, x4.tmod 10 * 65536, x5.tmod 10 * 65536, x6.tmod 10 * 65536, x7.tmod 10 * 65536, x8.tmod 10 * 65536, x9.tmod 10 * 65536, x10.tmod 10 * 65536, x11.tmod 10 * 65536, x12.tmod 10 * 65536, x13.tmod 10 * 65536, x14.tmod 10 * 65536, x15.tmod 10 * 65536] [x16.tmod 10 * 65536, x17.tmod 10 * 65536, x18.tmod 10 * 65536, x19.tmod 10 * 65536, x20.tmod 10 * 65536, x21.tmod 10 * 65536, x22.tmod 10 * 65536, x23.tmod 10 * 65536, x24.tmod 10 * 65536, x25.tmod 10 * 65536, x26.tmod 10 * 65536, x27.tmod 10 * 65536, x28.tmod 10 * 65536, x29.tmod 10 * 65536, x30.tmod 10 * 65536, x31.tmod 10 * 65536] 2, mulI [x0.tmod 10 * 65536, x1.tmod 10 * 65536, x2.tmod 10 * 65536, x3.tmod 10 * 65536, x4.tmod 10 * 65536, x5.tmod 10 * 65536, x6.tmod 10 * 65536, x7.tmod 10 * 65536, x8.tmod 10 * 65536, x9.tmod 10 * 65536, x10.tmod 10 * 65536, x11.tmod 10 * 65536, x12.tmod 10 * 65536, x13.tmod 10 * 65536, x14.tmod 10 * 65536, x15.tmod 10 * 65536] [x16.tmod 10 * 65536, x17.tmod 10 * 65536, x18.tmod 10 * 65536, x19.tmod 10 * 65536, x20.tmod 10 * 65536, x21.tmod 10 * 65536, x22.tmod 10 * 65536, x23.tmod 10 * 65536, x24.tmod 10 * 65536, x25.tmod 10 * 65536, x26.tmod 10 * 65536, x27.tmod 10 * 65536, x28.tmod 10 * 65536, x29.tmod 10 * 65536, x30.tmod 10 * 65536, x31.tmod 10 * 65536] 3, mulI [x0.tmod 10 * 65536, x1.tmod 10 * 65536, x2.tmod 10 * 65536, x3.tmod 10 * 65536, x4.tmod 10 * 65536, x5.tmod 10 * 65536, x6.tmod 10 * 65536, x7.tmod 10 * 65536, x8.tmod 10 * 65536, x9.tmod 10 * 65536, x10.tmod 10 * 65536, x11.tmod 10 * 65536, x12.tmod 10 * 65536, x13.tmod 10 * 65536, x14.tmod 10 * 65536, x15.tmod 10 * 65536] [x16.tmod 10 * 65536, x17.tmod 10 * 65536, x18.tmod 10 * 65536, x19.tmod 10 * 65536, x20.tmod 10 * 65536, x21.tmod 10 * 65536, x22.tmod 10 * 65536, x23.tmod 10 * 65536, x24.tmod 10 * 65536, x25.tmod 10 * 65536, x26.tmod 10 * 65536, x27.tmod 10 * 65536, x28.tmod 10 * 65536, x29.tmod 10 * 65536, x30.tmod 10 * 65536, x31.tmod 10 * 65536] 4, mulI [x0.tmod 10 * 65536, x1.tmod 10 * 65536, x2.tmod 10 * 65536, x3.tmod 10 * 65536, x4.tmod 10 * 65536, x5.tmod 10 * 65536, x6.tmod 10 * 65536, x7.tmod 10 * 65536, x8.tmod 10 * 65536, x9.tmod 10 * 65536, x10.tmod 10 * 65536, x11.tmod 10 * 65536, x12.tmod 10 * 65536, x13.tmod 10 * 65536, x14.tmod 10 * 65536, x15.tmod 10 * 65536] [x16.tmod 10 * 65536, x17.tmod 10 * 65536, x18.tmod 10 * 65536, x19.tmod 10 * 65536, x20.tmod 10 * 65536, x21.tmod 10 * 65536, x22.tmod 10 * 65536, x23.tmod 10 * 65536, x24.tmod 10 * 65536, x25.tmod 10 * 65536, x26.tmod 10 * 65536, x27.tmod 10 * 65536, x28.tmod 10 * 65536, x29.tmod 10 * 65536, x30.tmod 10 * 65536, x31.tmod 10 * 65536] 5, mulI [x0.tmod 10 * 65536, x1.tmod 10 * 65536, x2.tmod 10 * 65536, x3.tmod 10 * 65536, x4.tmod 10 * 65536, x5.tmod 10 * 65536, x6.tmod 10 * 65536, x7.tmod 10 * 65536, x8.tmod 10 * 65536, x9.tmod 10 * 65536, x10.tmod 10 * 65536, x11.tmod 10 * 65536, x12.tmod 10 * 65536, x13.tmod 10 * 65536, x14.tmod 10 * 65536, x15.tmod 10 * 65536] [x16.tmod 10 * 65536, x17.tmod 10 * 65536, x18.tmod 10 * 65536, x19.tmod 10 * 65536, x20.tmod 10 * 65536, x21.tmod 10 * 65536, x22.tmod 10 * 65536, x23.tmod 10 * 65536, x24.tmod 10 * 65536, x25.tmod 10 * 65536, x26.tmod 10 * 65536, x27.tmod 10 * 65536, x28.tmod 10 * 65536, x29.tmod 10 * 65536, x30.tmod 10 * 65536, x31.tmod 10 * 65536] 6, mulI [x0.tmod 10 * 65536, x1.tmod 10 * 65536, x2.tmod 10 * 65536, x3.tmod 10 * 65536, x4.tmod 10 * 65536, x5.tmod 10 * 65536, x6.tmod 10 * 65536, x7.tmod 10 * 65536, x8.tmod 10 * 65536, x9.tmod 10 * 65536, x10.tmod 10 * 65536, x11.tmod 10 * 65536, x12.tmod 10 * 65536, x13.tmod 10 * 65536, x14.tmod 10 * 65536, x15.tmod 10 * 65536] [x16.tmod 10 * 65536, x17.tmod 10 * 65536, x18.tmod 10 * 65536, x19.tmod 10 * 65536, x20.tmod 10 * 65536, x21.tmod 10 * 65536, x22.tmod 10 * 65536, x23.tmod 10 * 65536, x24.tmod 10 * 65536, x25.tmod 10 * 65536, x26.tmod 10 * 65536, x27.tmod 10 * 65536, x28.tmod 10 * 65536, x29.tmod 10 * 65536, x30.tmod 10 * 65536, x31.tmod 10 * 65536] 7, mulI [x0.tmod 10 * 65536, x1.tmod 10 * 65536, x2.tmod 10 * 65536, x3.tmod 10 * 65536, x4.tmod 10 * 65536, x5.tmod 10 * 65536, x6.tmod 10 * 65536, x7.tmod 10 * 65536, x8.tmod 10 * 65536, x9.tmod 10 * 65536, x10.tmod 10 * 65536, x11.tmod 10 * 65536, x12.tmod 10 * 65536, x13.tmod 10 * 65536, x14.tmod 10 * 65536, x15.tmod 10 * 65536] [x16.tmod 10 * 65536, x17.tmod 10 * 65536, x18.tmod 10 * 65536, x19.tmod 10 * 65536, x20.tmod 10 * 65536, x21.tmod 10 * 65536, x22.tmod 10 * 65536, x23.tmod 10 * 65536, x24.tmod 10 * 65536, x25.tmod 10 * 65536, x26.tmod 10 * 65536, x27.tmod 10 * 65536, x28.tmod 10 * 65536, x29.tmod 10 * 65536, x30.tmod 10 * 65536, x31.tmod 10 * 65536] 8, mulI [x0.tmod 10 * 65536, x1.tmod 10 * 65536, x2.tmod 10 * 65536, x3.tmod 10 * 65536, x4.tmod 10 * 65536, x5.tmod 10 * 65536, x6.tmod 10 * 65536, x7.tmod 10 * 65536, x8.tmod 10 * 65536, x9.tmod 10 * 65536, x10.tmod 10 * 65536, x11.tmod 10 * 65536, x12.tmod 10 * 65536, x13.tmod 10 * 65536, x14.tmod 10 * 65536, x15.tmod 10 * 65536] [x16.tmod 10 * 65536, x17.tmod 10 * 65536, x18.tmod 10 * 65536, x19.tmod 10 * 65536, x20.tmod 10 * 65536, x21.tmod 10 * 65536, x22.tmod 10 * 65536, x23.tmod 10 * 65536, x24.tmod 10 * 65536, x25.tmod 10 * 65536, x26.tmod 10 * 65536, x27.tmod 10 * 65536, x28.tmod 10 * 65536, x29.tmod 10 * 65536, x30.tmod 10 * 65536, x31.tmod 10 * 65536] 9, mulI [x0.tmod 10 * 65536, x1.tmod 10 * 65536, x2.tmod 10 * 65536, x3.tmod 10 * 65536, x4.tmod 10 * 65536, x5.tmod 10 * 65536, x6.tmod 10 * 65536, x7.tmod 10 * 65536, x8.tmod 10 * 65536, x9.tmod 10 * 65536, x10.tmod 10 * 65536, x11.tmod 10 * 65536, x12.tmod 10 * 65536, x13.tmod 10 * 65536, x14.tmod 10 * 65536, x15.tmod 10 * 65536] [x16.tmod 10 * 65536, x17.tmod 10 * 65536, x18.tmod 10 * 65536, x19.tmod 10 * 65536, x20.tmod 10 * 65536, x21.tmod 10 * 65536, x22.tmod 10 * 65536, x23.tmod 10 * 65536, x24.tmod 10 * 65536, x25.tmod 10 * 65536, x26.tmod 10 * 65536, x27.tmod 10 * 65536, x28.tmod 10 * 65536, x29.tmod 10 * 65536, x30.tmod 10 * 65536, x31.tmod 10 * 65536] 10, mulI [x0.tmod 10 * 65536, x1.tmod 10 * 65536, x2.tmod 10 * 65536, x3.tmod 10 * 65536, x4.tmod 10 * 65536, x5.tmod 10 * 65536, x6.tmod 10 * 65536, x7.tmod 10 * 65536, x8.tmod 10 * 65536, x9.tmod 10 * 65536, x10.tmod 10 * 65536, x11.tmod 10 * 65536, x12.tmod 10 * 65536, x13.tmod 10 * 65536, x14.tmod 10 * 65536, x15.tmod 10 * 65536] [x16.tmod 10 * 65536, x17.tmod 10 * 65536, x18.tmod 10 * 65536, x19.tmod 10 * 65536, x20.tmod 10 * 65536, x21.tmod 10 * 65536, x22.tmod 10 * 65536, x23.tmod 10 * 65536, x24.tmod 10 * 65536, x25.tmod 10 * 65536, x26.tmod 10 * 65536, x27.tmod 10 * 65536, x28.tmod 10 * 65536, x29.tmod 10 * 65536, x30.tmod 10 * 65536, x31.tmod 10 * 65536] 11, mulI [x0.tmod 10 * 65536, x1.tmod 10 * 65536, x2.tmod 10 * 65536, x3.tmod 10 * 65536, x4.tmod 10 * 65536, x5.tmod 10 * 65536, x6.tmod 10 * 65536, x7.tmod 10 * 65536, x8.tmod 10 * 65536, x9.tmod 10 * 65536, x10.tmod 10 * 65536, x11.tmod 10 * 65536, x12.tmod 10 * 65536, x13.tmod 10 * 65536, x14.tmod 10 * 65536, x15.tmod 10 * 65536] [x16.tmod 10 * 65536, x17.tmod 10 * 65536, x18.tmod 10 * 65536, x19.tmod 10 * 65536, x20.tmod 10 * 65536, x21.tmod 10 * 65536, x22.tmod 10 * 65536, x23.tmod 10 * 65536, x24.tmod 10 * 65536, x25.tmod 10 * 65536, x26.tmod 10 * 65536, x27.tmod 10 * 65536, x28.tmod 10 * 65536, x29.tmod 10 * 65536, x30.tmod 10 * 65536, x31.tmod 10 * 65536] 12, mulI [x0.tmod 10 * 65536, x1.tmod 10 * 65536, x2.tmod 10 * 65536, x3.tmod 10 * 65536, x4.tmod 10 * 65536, x5.tmod 10 * 65536, x6.tmod 10 * 65536, x7.tmod 10 * 65536, x8.tmod 10 * 65536, x9.tmod 10 * 65536, x10.tmod 10 * 65536, x11.tmod 10 * 65536, x12.tmod 10 * 65536, x13.tmod 10 * 65536, x14.tmod 10 * 65536, x15.tmod 10 * 65536] [x16.tmod 10 * 65536, x17.tmod 10 * 65536, x18.tmod 10 * 65536, x19.tmod 10 * 65536, x20.tmod 10 * 65536, x21.tmod 10 * 65536, x22.tmod 10 * 65536, x23.tmod 10 * 65536, x24.tmod 10 * 65536, x25.tmod 10 * 65536, x26.tmod 10 * 65536, x27.tmod 10 * 65536, x28.tmod 10 * 65536, x29.tmod 10 * 65536, x30.tmod 10 * 65536, x31.tmod 10 * 65536] 13, mulI [x0.tmod 10 * 65536, x1.tmod 10 * 65536, x2.tmod 10 * 65536, x3.tmod 10 * 65536, x4.tmod 10 * 65536, x5.tmod 10 * 65536, x6.tmod 10 * 65536, x7.tmod 10 * 65536, x8.tmod 10 * 65536, x9.tmod 10 * 65536, x10.tmod 10 * 65536, x11.tmod 10 * 65536, x12.tmod 10 * 65536, x13.tmod 10 * 65536, x14.tmod 10 * 65536, x15.tmod 10 * 65536] [x16.tmod 10 * 65536, x17.tmod 10 * 65536, x18.tmod 10 * 65536, x19.tmod 10 * 65536, x20.tmod 10 * 65536, x21.tmod 10 * 65536, x22.tmod 10 * 65536, x23.tmod 10 * 65536, x24.tmod 10 * 65536, x25.tmod 10 * 65536, x26.tmod 10 * 65536, x27.tmod 10 * 65536, x28.tmod 10 * 65536, x29.tmod 10 * 65536, x30.tmod 10 * 65536, x31.tmod 10 * 65536] 14, mulI [x0.tmod 10 * 65536, x1.tmod 10 * 65536, x2.tmod 10 * 65536, x3.tmod 10 * 65536, x4.tmod 10 * 65536, x5.tmod 10 * 65536, x6.tmod 10 * 65536, x7.tmod 10 * 65536, x8.tmod 10 * 65536, x9.tmod 10 * 65536, x10.tmod 10 * 65536, x11.tmod 10 * 65536, x12.tmod 10 * 65536, x13.tmod 10 * 65536, x14.tmod 10 * 65536, x15.tmod 10 * 65536] [x16.tmod 10 * 65536, x17.tmod 10 * 65536, x18.tmod 10 * 65536, x19.tmod 10 * 65536, x20.tmod 10 * 65536, x21.tmod 10 * 65536, x22.tmod 10 * 65536, x23.tmod 10 * 65536, x24.tmod 10 * 65536, x25.tmod 10 * 65536, x26.tmod 10 * 65536, x27.tmod 10 * 65536, x28.tmod 10 * 65536, x29.tmod 10 * 65536, x30.tmod 10 * 65536, x31.tmod 10 * 65536] 15, mulE [x0.tmod 10 * 65536, x1.tmod 10 * 65536, x2.tmod 10 * 65536, x3.tmod 10 * 65536, x4.tmod 10 * 65536, x5.tmod 10 * 65536, x6.tmod 10 * 65536, x7.tmod 10 * 65536, x8.tmod 10 * 65536, x9.tmod 10 * 65536, x10.tmod 10 * 65536, x11.tmod 10 * 65536, x12.tmod 10 * 65536, x13.tmod 10 * 65536, x14.tmod 10 * 65536, x15.tmod 10 * 65536] [x16.tmod 10 * 65536, x17.tmod 10 * 65536, x18.tmod 10 * 65536, x19.tmod 10 * 65536, x20.tmod 10 * 65536, x21.tmod 10 * 65536, x22.tmod 10 * 65536, x23.tmod 10 * 65536, x24.tmod 10 * 65536, x25.tmod 10 * 65536, x26.tmod 10 * 65536, x27.tmod 10 * 65536, x28.tmod 10 * 65536, x29.tmod 10 * 65536, x30.tmod 10 * 65536, x31.tmod 10 * 65536]] := hr
    rw [e0, e1, e2, e3, e4, e5, e6, e7, e8, e9, e10, e11, e12, e13, e14, e15, e16, e17, e18, e19, e20, e21, e22, e23, e24, e25, e26, e27, e28, e29, e30, e31, mul_list rA rB hprod rP] at hr
    subst hr
    refine h_call (c := cApply sg9) rfl trivial fun rs hk hr => ?_
    have hr : rs = List.map DV.i [appI [x16.tmod 10 * 65536, x17.tmod 10 * 65536, x18.tmod 10 * 65536, x19.tmod 10 * 65536, x20.tmod 10 * 65536, x21.tmod 10 * 65536, x22.tmod 10 * 65536, x23.tmod 10 * 65536, x24.tmod 10 * 65536, x25.tmod 10 * 65536, x26.tmod 10 * 65536, x27.tmod 10 * 65536, x28.tmod 10 * 65536, x29.tmod 10 * 65536, x30.tmod 10 * 65536, x31.tmod 10 * 65536] [x32, x33, x34, x35] 68719476736 0, appI [x16.tmod 10 * 65536, x17.tmod 10 * 65536, x18.tmod 10 * 65536, x19.tmod 10 * 65536, x20.tmod 10 * 65536, x21.tmod 10 * 65536, x22.tmod 10 * 65536, x23.tmod 10 * 65536, x24.tmod 10 * 65536, x25.tmod 10 * 65536, x26.tmod 10 * 65536, x27.tmod 10 * 65536, x28.tmod 10 * 65536, x29.tmod 10 * 65536, x30.tmod 10 * 65536, x31.tmod 10 * 65536] [x32, x33, x34, x35] 68719476736 1, appI [x16.tmod 10 * 65536, x17.tmod 10 * 65536, x18.tmod 10 * 65536, x19.tmod 10 * 65536, x20.tmod 10 * 65536, x21.tmod 10 * 65536, x22.tmod 10 * 65536, x23.tmod 10 * 65536, x24.tmod 10 * 65536, x25.tmod 10 * 65536, x26.tmod 10 * 65536, x27.tmod 10 * 65536, x28.tmod 10 * 65536, x29.tmod 10 * 65536, x30.tmod 10 * 65536, x31.tmod 10 * 65536] [x32, x33, x34, x35] 68719476736 2, appI [x16.tmod 10 * 65536, x17.tmod 10 * 65536, x18.tmod 10 * 65536, x19.tmod 10 * 65536, x20.tmod 10 * 65536, x21.tmod 10 * 65536, x22.tmod 10 * 65536, x23.tmod 10 * 65536, x24.tmod 10 * 65536, x25.tmod 10 * 65536, x26.tmod 10 * 65536, x27.tmod 10 * 65536, x28.tmod 10 * 65536, x29.tmod 10 * 65536, x30.tmod 10 * 65536, x31.tmod 10 * 65536] [x32, x33, x34, x35] 68719476736 3, appE [x16.tmod 10 * 65536, x17.tmod 10 * 65536, x18.tmod 10 * 65536, x19.tmod 10 * 65536, x20.tmod 10 * 65536, x21.tmod 10 * 65536, x22.tmod 10 * 65536, x23.tmod 10 * 65536, x24.tmod 10 * 65536, x25.tmod 10 * 65536, x26.tmod 10 * 65536, x27.tmod 10 * 65536, x28.tmod 10 * 65536, x29.tmod 10 * 65536, x30.tmod 10 * 65536, x31.tmod 10 * 65536] [x32, x33, x34, x35] 68719476736] := hr
    rw [e16, e17, e18, e19, e20, e21, e22, e23, e24, e25, e26, e27, e28, e29, e30, e31, app_list ⟨⟨rB, by omega, by omega⟩, rw4⟩ px nx4] at hr
    subst hr
    refine h_call (c := cApply sg9) rfl trivial fun rs hk hr => ?_
    have hr : rs = List.map DV.i [appI [x0.tmod 10 * 65536, x1.tmod 10 * 65536, x2.tmod 10 * 65536, x3.tmod 10 * 65536, x4.tmod 10 * 65536, x5.tmod 10 * 65536, x6.tmod 10 * 65536, x7.tmod 10 * 65536, x8.tmod 10 * 65536, x9.tmod 10 * 65536, x10.tmod 10 * 65536, x11.tmod 10 * 65536, x12.tmod 10 * 65536, x13.tmod 10 * 65536, x14.tmod 10 * 65536, x15.tmod 10 * 65536] [w0, w1, w2, w3] 68719476736 0, appI [x0.tmod 10 * 65536, x1.tmod 10 * 65536, x2.tmod 10 * 65536, x3.tmod 10 * 65536, x4.tmod 10 * 65536, x5.tmod 10 * 65536, x6.tmod 10 * 65536, x7.tmod 10 * 65536, x8.tmod 10 * 65536, x9.tmod 10 * 65536, x10.tmod 10 * 65536, x11.tmod 10 * 65536, x12.tmod 10 * 65536, x13.tmod 10 * 65536, x14.tmod 10 * 65536, x15.tmod 10 * 65536] [w0, w1, w2, w3] 68719476736 1, appI [x0.tmod 10 * 65536, x1.tmod 10 * 65536, x2.tmod 10 * 65536, x3.tmod 10 * 65536, x4.tmod 10 * 65536, x5.tmod 10 * 65536, x6.tmod 10 * 65536, x7.tmod 10 * 65536, x8.tmod 10 * 65536, x9.tmod 10 * 65536, x10.tmod 10 * 65536, x11.tmod 10 * 65536, x12.tmod 10 * 65536, x13.tmod 10 * 65536, x14.tmod 10 * 65536, x15.tmod 10 * 65536] [w0, w1, w2, w3] 68719476736 2, appI [x0.tmod 10 * 65536, x1.tmod 10 * 65536, x2.tmod 10 * 65536, x3.tmod 10 * 65536, x4.tmod 10 * 65536, x5.tmod 10 * 65536, x6.tmod 10 * 65536, x7.tmod 10 * 65536, x8.tmod 10 * 65536, x9.tmod 10 * 65536, x10.tmod 10 * 65536, x11.tmod 10 * 65536, x12.tmod 10 * 65536, x13.tmod 10 * 65536, x14.tmod 10 * 65536, x15.tmod 10 * 65536] [w0, w1, w2, w3] 68719476736 3, appE [x0.tmod 10 * 65536, x1.tmod 10 * 65536, x2.tmod 10 * 65536, x3.tmod 10 * 65536, x4.tmod 10 * 65536, x5.tmod 10 * 65536, x6.tmod 10 * 65536, x7.tmod 10 * 65536, x8.tmod 10 * 65536, x9.tmod 10 * 65536, x10.tmod 10 * 65536, x11.tmod 10 * 65536, x12.tmod 10 * 65536, x13.tmod 10 * 65536, x14.tmod 10 * 65536, x15.tmod 10 * 65536] [w0, w1, w2, w3] 68719476736] := hr
    rw [e0, e1, e2, e3, e4, e5, e6, e7, e8, e9, e10, e11, e12, e13, e14, e15, app_list ⟨⟨rA, by omega, by omega⟩, rx4⟩ py ny4] at hr
    subst hr
    refine h_call (c := cApply sg9) rfl trivial fun rs hk hr => ?_
    have hr : rs = List.map DV.i [appI [s00 * 65536, s01 * 65536, s02 * 65536, s03 * 65536, s10 * 65536, s11 * 65536, s12 * 65536, s13 * 65536, s20 * 65536, s21 * 65536, s22 * 65536, s23 * 65536, s30 * 65536, s31 * 65536, s32 * 65536, s33 * 65536] [x32, x33, x34, x35] 68719476736 0, appI [s00 * 65536, s01 * 65536, s02 * 65536, s03 * 65536, s10 * 65536, s11 * 65536, s12 * 65536, s13 * 65536, s20 * 65536, s21 * 65536, s22 * 65536, s23 * 65536, s30 * 65536, s31 * 65536, s32 * 65536, s33 * 65536] [x32, x33, x34, x35] 68719476736 1, appI [s00 * 65536, s01 * 65536, s02 * 65536, s03 * 65536, s10 * 65536, s11 * 65536, s12 * 65536, s13 * 65536, s20 * 65536, s21 * 65536, s22 * 65536, s23 * 65536, s30 * 65536, s31 * 65536, s32 * 65536, s33 * 65536] [x32, x33, x34, x35] 68719476736 2, appI [s00 * 65536, s01 * 65536, s02 * 65536, s03 * 65536, s10 * 65536, s11 * 65536, s12 * 65536, s13 * 65536, s20 * 65536, s21 * 65536, s22 * 65536, s23 * 65536, s30 * 65536, s31 * 65536, s32 * 65536, s33 * 65536] [x32, x33, x34, x35] 68719476736 3, appE [s00 * 65536, s01 * 65536, s02 * 65536, s03 * 65536, s10 * 65536, s11 * 65536, s12 * 65536, s13 * 65536, s20 * 65536, s21 * 65536, s22 * 65536, s23 * 65536, s30 * 65536, s31 * 65536, s32 * 65536, s33 * 65536] [x32, x33, x34, x35] 68719476736] := hr
    rw [app_list ⟨⟨rP, by omega, by omega⟩, rw4⟩ pz ny4] at hr
    subst hr
    refine h_call (c := cFlip sg16) rfl trivial fun rs hk hr => ?_
    have hr : rs = List.map DV.i [x16.tmod 10 * 65536, x20.tmod 10 * 65536, x24.tmod 10 * 65536, x28.tmod 10 * 65536, x17.tmod 10 * 65536, x21.tmod 10 * 65536, x25.tmod 10 * 65536, x29.tmod 10 * 65536, x18.tmod 10 * 65536, x22.tmod 10 * 65536, x26.tmod 10 * 65536, x30.tmod 10 * 65536, x19.tmod 10 * 65536, x23.tmod 10 * 65536, x27.tmod 10 * 65536, x31.tmod 10 * 65536] := hr
    rw [e16, e20, e24, e28, e17, e21, e25, e29, e18, e22, e26, e30, e19, e23, e27, e31] at hr
    subst hr
    refine h_call (c := cFlip sg16) rfl trivial fun rs hk hr => ?_
    have hr : rs = List.map DV.i [x0.tmod 10 * 65536, x4.tmod 10 * 65536, x8.tmod 10 * 65536, x12.tmod 10 * 65536, x1.tmod 10 * 65536, x5.tmod 10 * 65536, x9.tmod 10 * 65536, x13.tmod 10 * 65536, x2.tmod 10 * 65536, x6.tmod 10 * 65536, x10.tmod 10 * 65536, x14.tmod 10 * 65536, x3.tmod 10 * 65536, x7.tmod 10 * 65536, x11.tmod 10 * 65536, x15.tmod 10 * 65536] := hr
    rw [e0, e4, e8, e12, e1, e5, e9, e13, e2, e6, e10, e14, e3, e7, e11, e15] at hr
    subst hr
    refine h_call (c := cMul sg12) rfl trivial fun rs hk hr => ?_
    have hr : rs = List.map DV.i [mulI [b0 * 65536, b4 * 65536, b8 * 65536, b12 * 65536, b1 * 65536, b5 * 65536, b9 * 65536, b13 * 65536, b2 * 65536, b6 * 65536, b10 * 65536, b14 * 65536, b3 * 65536, b7 * 65536, b11 * 65536, b15 * 65536] [a0 * 65536, a4 * 65536, a8 * 65536, a12 * 65536, a1 * 65536, a5 * 65536, a9 * 65536, a13 * 65536, a2 * 65536, a6 * 65536, a10 * 65536, a14 * 65536, a3 * 65536, a7 * 65536, a11 * 65536, a15 * 65536] 0, mulI [b0 * 65536, b4 * 65536, b8 * 65536, b12 * 65536, b1 * 65536, b5 * 65536, b9 * 65536, b13 * 65536, b2 * 65536, b6 * 65536, b10 * 65536, b14 * 65536, b3 * 65536, b7 * 65536, b11 * 65536, b15 * 65536] [a0 * 65536, a4 * 65536, a8 * 65536, a12 * 65536, a1 * 65536, a5 * 65536, a9 * 65536, a13 * 65536, a2 * 65536, a6 * 65536, a10 * 65536, a14 * 65536, a3 * 65536, a7 * 65536, a11 * 65536, a15 * 65536] 1, mulI [b0 * 65536, b4 * 65536, b8 * 65536, b12 * 65536, b1 * 65536, b5 * 65536, b9 * 65536, b13 * 65536, b2 * 65536, b6 * 65536, b10 * 65536, b14 * 65536, b3 * 65536, b7 * 65536, b11 * 65536, b15 * 65536] [a0 * 65536, a4 * 65536, a8 * 65536, a12 * 65536, a1 * 65536, a5 * 65536, a9 * 65536, a13 * 65536, a2 * 65536, a6 * 65536, a10 * 65536, a14 * 65536, a3 * 65536, a7 * 65536, a11 * 65536, a15 * 65536] 2, mulI [b0 * 65536, b4 * 65536, b8 * 65536, b12 * 65536, b1 * 65536, b5 * 65536, b9 * 65536, b13 * 65536, b2 * 65536, b6 * 65536, b10 * 65536, b14 * 65536, b3 * 65536, b7 * 65536, b11 * 65536, b15 * 65536] [a0 * 65536, a4 * 65536, a8 * 65536, a12 * 65536, a1 * 65536, a5 * 65536, a9 * 65536, a13 * 65536, a2 * 65536, a6 * 65536, a10 * 65536, a14 * 65536, a3 * 65536, a7 * 65536, a11 * 65536, a15 * 65536] 3, mulI [b0 * 65536, b4 * 65536, b8 * 65536, b12 * 65536, b1 * 65536, b5 * 65536, b9 * 65536, b13 * 65536, b2 * 65536, b6 * 65536, b10 * 65536, b14 * 65536, b3 * 65536, b7 * 65536, b11 * 65536, b15 * 65536] [a0 * 65536, a4 * 65536, a8 * 65536, a12 * 65536, a1 * 65536, a5 * 65536, a9 * 65536, a13 * 65536, a2 * 65536, a6 * 65536, a10 * 65536, a14 * 65536, a3 * 65536, a7 * 65536, a11 * 65536, a15 * 65536] 4, mulI [b0 * 65536, b4 * 65536, b8 * 65536, b12 * 65536, b1 * 65536, b5 * 65536, b9 * 65536, b13 * 65536, b2 * 65536, b6 * 65536, b10 * 65536, b14 * 65536, b3 * 65536, b7 * 65536, b11 * 65536, b15 * 65536] [a0 * 65536, a4 * 65536, a8 * 65536, a12 * 65536, a1 * 65536, a5 * 65536, a9 * 65536, a13 * 65536, a2 * 65536, a6 * 65536, a10 * 65536, a14 * 65536, a3 * 65536, a7 * 65536, a11 * 65536, a15 * 65536] 5, mulI [b0 * 65536, b4 * 65536, b8 * 65536, b12 * 65536, b1 * 65536, b5 * 65536, b9 * 65536, b13 * 65536, b2 * 65536, b6 * 65536, b10 * 65536, b14 * 65536, b3 * 65536, b7 * 65536, b11 * 65536, b15 * 65536] [a0 * 65536, a4 * 65536, a8 * 65536, a12 * 65536, a1 * 65536, a5 * 65536, a9 * 65536, a13 * 65536, a2 * 65536, a6 * 65536, a10 * 65536, a14 * 65536, a3 * 65536, a7 * 65536, a11 * 65536, a15 * 65536] 6, mulI [b0 * 65536, b4 * 65536, b8 * 65536, b12 * 65536, b1 * 65536, b5 * 65536, b9 * 65536, b13 * 65536, b2 * 65536, b6 * 65536, b10 * 65536, b14 * 65536, b3 * 65536, b7 * 65536, b11 * 65536, b15 * 65536] [a0 * 65536, a4 * 65536, a8 * 65536, a12 * 65536, a1 * 65536, a5 * 65536, a9 * 65536, a13 * 65536, a2 * 65536, a6 * 65536, a10 * 65536, a14 * 65536, a3 * 65536, a7 * 65536, a11 * 65536, a15 * 65536] 7, mulI [b0 * 65536, b4 * 65536, b8 * 65536, b12 * 65536, b1 * 65536, b5 * 65536, b9 * 65536, b13 * 65536, b2 * 65536, b6 * 65536, b10 * 65536, b14 * 65536, b3 * 65536, b7 * 65536, b11 * 65536, b15 * 65536] [a0 * 65536, a4 * 65536, a8 * 65536, a12 * 65536, a1 * 65536, a5 * 65536, a9 * 65536, a13 * 65536, a2 * 65536, a6 * 65536, a10 * 65536, a14 * 65536, a3 * 65536, a7 * 65536, a11 * 65536, a15 * 65536] 8, mulI [b0 * 65536, b4 * 65536, b8 * 65536, b12 * 65536, b1 * 65536, b5 * 65536, b9 * 65536, b13 * 65536, b2 * 65536, b6 * 65536, b10 * 65536, b14 * 65536, b3 * 65536, b7 * 65536, b11 * 65536, b15 * 65536] [a0 * 65536, a4 * 65536, a8 * 65536, a12 * 65536, a1 * 65536, a5 * 65536, a9 * 65536, a13 * 65536, a2 * 65536, a6 * 65536, a10 * 65536, a14 * 65536, a3 * 65536, a7 * 65536, a11 * 65536, a15 * 65536] 9, mulI [b0 * 65536, b4 * 65536, b8 * 65536, b12 * 65536, b1 * 65536, b5 * 65536, b9 * 65536, b13 * 65536, b2 * 65536, b6 * 65536, b10 * 65536, b14 * 65536, b3 * 65536, b7 * 65536, b11 * 65536, b15 * 65536] [a0 * 65536, a4 * 65536, a8 * 65536, a12 * 65536, a1 * 65536, a5 * 65536, a9 * 65536, a13 * 65536, a2 * 65536, a6 * 65536, a10 * 65536, a14 * 65536, a3 * 65536, a7 * 65536, a11 * 65536, a15 * 65536] 10, mulI [b0 * 65536, b4 * 65536, b8 * 65536, b12 * 65536, b1 * 65536, b5 * 65536, b9 * 65536, b13 * 65536, b2 * 65536, b6 * 65536, b10 * 65536, b14 * 65536, b3 * 65536, b7 * 65536, b11 * 65536, b15 * 65536] [a0 * 65536, a4 * 65536, a8 * 65536, a12 * 65536, a1 * 65536, a5 * 65536, a9 * 65536, a13 * 65536, a2 * 65536, a6 * 65536, a10 * 65536, a14 * 65536, a3 * 65536, a7 * 65536, a11 * 65536, a15 * 65536] 11, mulI [b0 * 65536, b4 * 65536, b8 * 65536, b12 * 65536, b1 * 65536, b5 * 65536, b9 * 65536, b13 * 65536, b2 * 65536, b6 * 65536, b10 * 65536, b14 * 65536, b3 * 65536, b7 * 65536, b11 * 65536, b15 * 65536] [a0 * 65536, a4 * 65536, a8 * 65536, a12 * 65536, a1 * 65536, a5 * 65536, a9 * 65536, a13 * 65536, a2 * 65536, a6 * 65536, a10 * 65536, a14 * 65536, a3 * 65536, a7 * 65536, a11 * 65536, a15 * 65536] 12, mulI [b0 * 65536, b4 * 65536, b8 * 65536, b12 * 65536, b1 * 65536, b5 * 65536, b9 * 65536, b13 * 65536, b2 * 65536, b6 * 65536, b10 * 65536, b14 * 65536, b3 * 65536, b7 * 65536, b11 * 65536, b15 * 65536] [a0 * 65536, a4 * 65536, a8 * 65536, a12 * 65536, a1 * 65536, a5 * 65536, a9 * 65536, a13 * 65536, a2 * 65536, a6 * 65536, a10 * 65536, a14 * 65536, a3 * 65536, a7 * 65536, a11 * 65536, a15 * 65536] 13, mulI [b0 * 65536, b4 * 65536, b8 * 65536, b12 * 65536, b1 * 65536, b5 * 65536, b9 * 65536, b13 * 65536, b2 * 65536, b6 * 65536, b10 * 65536, b14 * 65536, b3 * 65536, b7 * 65536, b11 * 65536, b15 * 65536] [a0 * 65536, a4 * 65536, a8 * 65536, a12 * 65536, a1 * 65536, a5 * 65536, a9 * 65536, a13 * 65536, a2 * 65536, a6 * 65536, a10 * 65536, a14 * 65536, a3 * 65536, a7 * 65536, a11 * 65536, a15 * 65536] 14, mulI [b0 * 65536, b4 * 65536, b8 * 65536, b12 * 65536, b1 * 65536, b5 * 65536, b9 * 65536, b13 * 65536, b2 * 65536, b6 * 65536, b10 * 65536, b14 * 65536, b3 * 65536, b7 * 65536, b11 * 65536, b15 * 65536] [a0 * 65536, a4 * 65536, a8 * 65536, a12 * 65536, a1 * 65536, a5 * 65536, a9 * 65536, a13 * 65536, a2 * 65536, a6 * 65536, a10 * 65536, a14 * 65536, a3 * 65536, a7 * 65536, a11 * 65536, a15 * 65536] 15, mulE [b0 * 65536, b4 * 65536, b8 * 65536, b12 * 65536, b1 * 65536, b5 * 65536, b9 * 65536, b13 * 65536, b2 * 65536, b6 * 65536, b10 * 65536, b14 * 65536, b3 * 65536, b7 * 65536, b11 * 65536, b15 * 65536] [a0 * 65536, a4 * 65536, a8 * 65536, a12 * 65536, a1 * 65536, a5 * 65536, a9 * 65536, a13 * 65536, a2 * 65536, a6 * 65536, a10 * 65536, a14 * 65536, a3 * 65536, a7 * 65536, a11 * 65536, a15 * 65536]] := hr
    rw [mul_list rFB rFA hfprod rFP] at hr
    subst hr
    refine h_call (c := c11) rfl trivial fun rs hk hr => ?_
    have hr : rs = [.b true] := hr
    subst hr
    refine h_cally (c := cFlip sg16) rfl (by simp [Env.sets, Env.set, BE.den, IE.den, DV.bool, DV.int]) trivial fun rs hk hr => ?_
    have hr : rs = List.map DV.i [s00 * 65536, s10 * 65536, s20 * 65536, s30 * 65536, s01 * 65536, s11 * 65536, s21 * 65536, s31 * 65536, s02 * 65536, s12 * 65536, s22 * 65536, s32 * 65536, s03 * 65536, s13 * 65536, s23 * 65536, s33 * 65536] := hr
    subst hr
    simp [Tree.holds, DE.den, BE.den, IE.den, Env.sets, Env.set, DV.bool, DV.int]
  · cases hp
theorem pre6 (dvs : List DV) (hh : dvsIn (cts sg6.args) dvs) : c6.pre dvs := by
  simp only [sg6, cts, List.flatMap_cons, List.flatMap_nil, VT.cts, List.append_nil, List.cons_append, List.nil_append] at hh
  match dvs, hh with
  | .i x0 :: .i x1 :: .i x2 :: .i x3 :: .i x4 :: .i x5 :: .i x6 :: .i x7 :: .i x8 :: .i x9 :: .i x10 :: .i x11 :: .i x12 :: .i x13 :: .i x14 :: .i x15 :: .i x16 :: .i x17 :: .i x18 :: .i x19 :: .i x20 :: .i x21 :: .i x22 :: .i x23 :: .i x24 :: .i x25 :: .i x26 :: .i x27 :: .i x28 :: .i x29 :: .i x30 :: .i x31 :: .i x32 :: .i x33 :: .i x34 :: .i x35 :: [], hh => 
    obtain ⟨h0, h1, h2, h3, h4, h5, h6, h7, h8, h9, h10, h11, h12, h13, h14, h15, h16, h17, h18, h19, h20, h21, h22, h23, h24, h25, h26, h27, h28, h29, h30, h31, h32, h33, h34, h35, _⟩ := hh
    refine (show (∀ x ∈ [x0, x1, x2, x3, x4, x5, x6, x7, x8, x9, x10, x11, x12, x13, x14, x15, x16, x17, x18, x19, x20, x21, x22, x23, x24, x25, x26, x27, x28, x29, x30, x31], -128 ≤ x ∧ x ≤ 127) ∧ ∀ x ∈ [x32, x33, x34, x35], -32768 ≤ x ∧ x ≤ 32767 from ⟨?_, ?_⟩)
    · intro z hz
      simp only [List.mem_cons, List.not_mem_nil, or_false] at hz
      rcases hz with rfl | rfl | rfl | rfl | rfl | rfl | rfl | rfl | rfl | rfl | rfl | rfl | rfl | rfl | rfl | rfl | rfl | rfl | rfl | rfl | rfl | rfl | rfl | rfl | rfl | rfl | rfl | rfl | rfl | rfl | rfl | rfl <;> assumption
    · intro z hz
      simp only [List.mem_cons, List.not_mem_nil, or_false] at hz
      rcases hz with rfl | rfl | rfl | rfl <;> assumption

end Go.Proofs.Ythdcbfgaohondaa.Fns
