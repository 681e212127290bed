/- Layer 11: what each function does. -/
import Derived.Test.YtmcgdadieklbjaaSxH2
import Derived.Test.YtmcgdadieklbjaaTrees
set_option linter.unusedVariables false
set_option linter.unusedSimpArgs false
set_option maxRecDepth 10000
namespace Go.Proofs.Ytmcgdadieklbjaa.Fns
open Go.Sx Go.Proofs.Ytmcgdadieklbjaa.Trees

/-! ### Plain -/
def in64 (x : Int) : Prop := -9223372036854775808 ≤ x ∧ x ≤ 9223372036854775807
theorem wrap_u64 {x : Int} (h : in64 x) : IntKind.u64.wrap x = if 0 ≤ x then x else x + 18446744073709551616 := by
  obtain ⟨h1, h2⟩ := h
  simp [IntKind.wrap, IntKind.signed, IntKind.bits]
  split <;> omega
theorem mul_bd {a b A B : Int} (h1 : 0 ≤ a) (h2 : a ≤ A) (h3 : -B ≤ b) (h4 : b ≤ B) : -(A * B) ≤ a * b ∧ a * b ≤ A * B := by
  have hB : 0 ≤ B := by omega
  have hA : 0 ≤ A := by omega
  constructor
  · have e1 : a * -B ≤ a * b := Int.mul_le_mul_of_nonneg_left h3 h1
    have e2 : a * B ≤ A * B := Int.mul_le_mul_of_nonneg_right h2 hB
    rw [Int.mul_neg] at e1
    omega
  · have e1 : a * b ≤ a * B := Int.mul_le_mul_of_nonneg_left h4 h1
    have e2 : a * B ≤ A * B := Int.mul_le_mul_of_nonneg_right h2 hB
    omega
theorem div_bd {n d : Int} (hd : 1 ≤ d) : (0 ≤ n → 0 ≤ n / d ∧ n / d ≤ n) ∧ (n < 0 → n ≤ n / d ∧ n / d < 0) := by
  refine ⟨fun h => ⟨Int.ediv_nonneg h (by omega), Int.ediv_le_self d h⟩, fun h => ?_⟩
  have h1 : n / d < 0 := Int.ediv_neg_of_neg_of_pos h (by omega)
  refine ⟨?_, h1⟩
  have := (Int.le_ediv_iff_mul_le (by omega : 0 < d)).2 (show n * d ≤ n by
    have : n * d ≤ n * 1 := Int.mul_le_mul_of_nonpos_left (by omega) hd
    omega)
  exact this

theorem floor_spec {n d : Int} (hd : 1 ≤ d) : (n.tmod d < 0 → n.tdiv d = n / d + 1) ∧ (0 ≤ n.tmod d → n.tdiv d = n / d) := by
  have hs : d.sign = 1 := Int.sign_eq_one_of_pos (by omega)
  rw [Int.tdiv_eq_ediv, Int.tmod_eq_emod, hs]
  have h1 := Int.emod_nonneg n (show d ≠ 0 by omega)
  have h2 := Int.emod_lt_of_pos n (show 0 < d by omega)
  split <;> omega
theorem tdiv_near {n d : Int} (hd : 1 ≤ d) : n.tdiv d = n / d ∨ n.tdiv d = n / d + 1 := by
  obtain ⟨h1, h2⟩ := floor_spec (n := n) hd
  rcases Int.lt_or_le (n.tmod d) 0 with h | h
  · exact .inr (h1 h)
  · exact .inl (h2 h)

def rightB (px py pw ph : Int) : Bool := (((((decide (-8192 ≤ px) && decide (px ≤ 8192)) && decide (-8192 ≤ py)) && decide (py ≤ 8192)) && (decide (0 ≤ pw) && decide (pw ≤ 4096))) && (decide (0 ≤ ph) && decide (ph ≤ 4096)))
def cok (c : Int) : Bool := decide (0 ≤ c) && decide (c ≤ 255)
def fitsB (x y z w a b c d : Int) : Bool := decide (1 ≤ w ∧ w ≤ 68719476736 ∧ -68719476736 ≤ x ∧ x ≤ 68719476736 ∧ -68719476736 ≤ y ∧ y ≤ 68719476736 ∧ -68719476736 ≤ z ∧ z ≤ 68719476736) && (cok a && cok b && cok c && cok d)
def bad (e : Int) : List DV := [.i 0, .i 0, .i 0, .i 0, .i 0, .i 0, .i 0, .i e]
def side (p s x w : Int) : Int := p * 256 + (s * 128 * (x + w)) / w
def deep (z w : Int) : Int := min (max (16777215 * (z + w) / (2 * w)) 0) 16777215
def farB (X Y : Int) : Bool := ((decide (X < -268435456) || decide (268435456 < X)) || decide (Y < -268435456)) || decide (268435456 < Y)
def mapV (x y z w a b c d px py pw ph : Int) : List DV :=
  if rightB px py pw ph && fitsB x y z w a b c d then
    if farB (side px pw x w) (side py ph y w) then bad 9 else [.i (side px pw x w), .i (side py ph y w), .i (deep z w), .i a, .i b, .i c, .i d, .i 0]
  else bad 1

theorem right_spec {px py pw ph : Int} (h : rightB px py pw ph = true) : -8192 ≤ px ∧ px ≤ 8192 ∧ -8192 ≤ py ∧ py ≤ 8192 ∧ 0 ≤ pw ∧ pw ≤ 4096 ∧ 0 ≤ ph ∧ ph ≤ 4096 := by
  simp only [rightB, Bool.and_eq_true, decide_eq_true_eq] at h
  omega
theorem fits_spec {x y z w a b c d : Int} (h : fitsB x y z w a b c d = true) : 1 ≤ w ∧ w ≤ 68719476736 ∧ -68719476736 ≤ x ∧ x ≤ 68719476736 ∧ -68719476736 ≤ y ∧ y ≤ 68719476736 ∧ -68719476736 ≤ z ∧ z ≤ 68719476736 := by
  simp only [fitsB, Bool.and_eq_true, decide_eq_true_eq] at h
  exact h.1

/-! ### The contracts -/
def port64 (px py pw ph : Int) : Prop := in64 px ∧ in64 py ∧ in64 pw ∧ in64 ph
def vert64 (x y z w a b c d : Int) : Prop := (in64 x ∧ in64 y ∧ in64 z ∧ in64 w) ∧ in64 a ∧ in64 b ∧ in64 c ∧ in64 d
def c11 : Contract := CFn sg11 (fun | [.i px, .i py, .i pw, .i ph] => port64 px py pw ph | _ => False) (fun | [.i px, .i py, .i pw, .i ph] => [.b (rightB px py pw ph)] | _ => [])
def c12 : Contract := CFn sg12 (fun | [.i px, .i py, .i pw, .i ph] => True | _ => False) (fun | [.i px, .i py, .i pw, .i ph] => [.b (rightB px py pw ph)] | _ => [])
def c17 : Contract := CFn sg17 (fun | [.i n, .i l, .i h] => True | _ => False) (fun | [.i n, .i l, .i h] => [.b (decide (l ≤ n) && decide (n ≤ h))] | _ => [])
def c13 : Contract := CFn sg13 (fun | [.i u] => True | _ => False) (fun | [.i u] => [.i (u / 256)] | _ => [])
def c14 : Contract := CFn sg14 (fun | [.i u] => in64 u | _ => False) (fun | [.i u] => [.i (u / 256)] | _ => [])
def c15 : Contract := CFn sg15 (fun | [.i x, .i y, .i z, .i w, .i a, .i b, .i c, .i d] => vert64 x y z w a b c d | _ => False) (fun | [.i x, .i y, .i z, .i w, .i a, .i b, .i c, .i d] => [.b (fitsB x y z w a b c d)] | _ => [])
def c16 : Contract := CFn sg16 (fun | [.i n, .i d] => in64 n ∧ -4611686018427387904 ≤ n ∧ 1 ≤ d | _ => False) (fun | [.i n, .i d] => [.i (n / d)] | _ => [])
def downPre (n d : Int) : Prop := -2305843009213693952 ≤ n ∧ n ≤ 2305843009213693952 ∧ 1 ≤ d ∧ d ≤ 2305843009213693952
def c18 : Contract := CFn sg18 (fun | [.i n, .i d] => downPre n d | _ => False) (fun | [.i n, .i d] => [.i (n / d)] | _ => [])

theorem ok17 : ContractOk Try.prog 17 c17 := by
  refine contract_of (Γ := knownOf []) known_nil Try.func17 rfl rfl is17 fun ds hk hp => ?_
  split at hp
  · simp [tree17, Tree.holds, Env.sets, Env.set, BE.den, IE.den, DE.den, DV.int]
  · cases hp

theorem ok11 : ContractOk Try.prog 11 c11 := by
  refine contract_of (Γ := knownOf []) known_nil Try.func11 rfl rfl is11 fun ds hk hp => ?_
  split at hp
  · rename_i px py pw ph
    obtain ⟨h1, h2, h3, h4⟩ := hp
    simp only [tree11, Tree.holds, Env.sets, Env.set, BE.den, IE.den, DE.den, DV.int, rightB, List.map_cons, List.map_nil, Nat.reduceEqDiff, ↓reduceIte, reduceCtorEq, wrap_u64 h3, wrap_u64 h4, List.cons.injEq, DV.b.injEq, and_true]
    simp only [in64] at h1 h2 h3 h4
    rw [Bool.eq_iff_iff]
    simp only [Bool.and_eq_true, decide_eq_true_eq]
    split <;> split <;> omega
  · cases hp

theorem ok13 : ContractOk Try.prog 13 c13 := by
  refine contract_of (Γ := knownOf []) known_nil Try.func13 rfl rfl is13 fun ds hk hp => ?_
  split at hp
  · simp [tree13, Tree.holds, Env.sets, Env.set, BE.den, IE.den, DE.den, DV.int]
  · cases hp

theorem ok14 : ContractOk Try.prog 14 c14 := by
  refine contract_of (Γ := knownOf []) known_nil Try.func14 rfl rfl is14 fun ds hk hp => ?_
  split at hp
  · rename_i u
    simp only [in64] at hp
    obtain ⟨f1, f2⟩ := floor_spec (n := u) (d := 256) (by omega)
    simp only [tree14, Tree.holds, Ev.holds, Env.sets, Env.set, BE.den, IE.den, DE.den, DV.int, List.map_cons, List.map_nil, Nat.reduceEqDiff, ↓reduceIte, reduceCtorEq, Bool.and_eq_true, decide_eq_true_eq, decide_eq_false_iff_not, List.cons.injEq, DV.i.injEq, and_true]
    generalize u.tdiv 256 = q at *
    generalize u.tmod 256 = r at *
    omega
  · cases hp

theorem ok16 : ContractOk Try.prog 16 c16 := by
  refine contract_of (Γ := knownOf []) known_nil Try.func16 rfl rfl is16 fun ds hk hp => ?_
  split at hp
  · rename_i n d
    obtain ⟨hp, hn, hd⟩ := hp
    simp only [in64] at hp
    obtain ⟨f1, f2⟩ := floor_spec (n := n) (d := d) hd
    obtain ⟨g1, g2⟩ := div_bd (n := n) (d := d) hd
    have f3 : 0 ≤ n → 0 ≤ n.tmod d := fun h => Int.tmod_nonneg d h
    simp only [tree16, Tree.holds, Ev.holds, Env.sets, Env.set, BE.den, IE.den, DE.den, DV.int, List.map_cons, List.map_nil, Nat.reduceEqDiff, ↓reduceIte, reduceCtorEq, Bool.and_eq_true, decide_eq_true_eq, decide_eq_false_iff_not, List.cons.injEq, DV.i.injEq, and_true, ne_eq]
    generalize n.tdiv d = q at *
    generalize n.tmod d = r at *
    generalize n / d = e at *
    omega
  · cases hp

theorem ok18 : ContractOk Try.prog 18 c18 := by
  refine contract_of (Γ := knownOf []) known_nil Try.func18 rfl rfl is18 fun ds hk hp => ?_
  split at hp
  · rename_i n d
    obtain ⟨h1, h2, hd, h4⟩ := hp
    obtain ⟨g1, g2⟩ := div_bd (n := n) (d := d) hd
    have hq := tdiv_near (n := n) (d := d) hd
    have hy1 : n / d * d ≤ n := Int.ediv_mul_le _ (by omega)
    have hy2 : n < (n / d + 1) * d := Int.lt_ediv_add_one_mul_self _ (by omega)
    have hy3 : (n / d + 1) * d = n / d * d + d := by rw [Int.add_mul, Int.one_mul]
    obtain ⟨q, hqq⟩ : ∃ q, n / d = q := ⟨_, rfl⟩
    rw [hqq] at hq hy1 hy2 hy3 g1 g2
    refine h_need (by simp [Env.sets, Env.set, BE.den, IE.den, DV.int]; omega) (h_need (by simp only [Env.sets, Env.set, BE.den, IE.den, DV.int, Nat.reduceEqDiff, ↓reduceIte, reduceCtorEq, Bool.and_eq_true, decide_eq_true_eq]; omega)
      (h_loop (fun ds => ds = [.i q] ∨ ds = [.i (q + 1)]) (fun | [.i i] => (i - q).toNat | _ => 0) ?_ ?_))
    · simp only [Env.sets, Env.set, BE.den, IE.den, DE.den, DV.int, List.map_cons, List.map_nil, Nat.reduceEqDiff, ↓reduceIte, reduceCtorEq, List.cons.injEq, DV.i.injEq, and_true]
      exact hq
    · intro ds _ hds
      rcases hds with rfl | rfl
      · refine h_need (by simp only [Env.sets, Env.set, BE.den, IE.den, DV.int, Nat.reduceEqDiff, ↓reduceIte, reduceCtorEq, Bool.and_eq_true, decide_eq_true_eq]; omega) (h_ite (fun hc => ?_) (fun hc => ?_))
        · simp only [Env.sets, Env.set, BE.den, IE.den, DV.int, Nat.reduceEqDiff, ↓reduceIte, reduceCtorEq, decide_eq_true_eq] at hc
          omega
        · simp only [Tree.holds, Env.sets, Env.set, BE.den, IE.den, DE.den, DV.int, List.map_cons, List.map_nil, Nat.reduceEqDiff, ↓reduceIte, reduceCtorEq, hqq]
      · refine h_need (by simp only [Env.sets, Env.set, BE.den, IE.den, DV.int, Nat.reduceEqDiff, ↓reduceIte, reduceCtorEq, Bool.and_eq_true, decide_eq_true_eq]; omega) (h_ite (fun hc => ?_) (fun hc => ?_))
        · refine h_need (by simp only [Env.sets, Env.set, BE.den, IE.den, DV.int, Nat.reduceEqDiff, ↓reduceIte, reduceCtorEq, Bool.and_eq_true, decide_eq_true_eq]; omega) (h_again ⟨.inl ?_, ?_⟩)
          · simp only [Env.sets, Env.set, BE.den, IE.den, DE.den, DV.int, List.map_cons, List.map_nil, Nat.reduceEqDiff, ↓reduceIte, reduceCtorEq, List.cons.injEq, DV.i.injEq, and_true]
            omega
          · simp only [Env.sets, Env.set, BE.den, IE.den, DE.den, DV.int, List.map_cons, List.map_nil, Nat.reduceEqDiff, ↓reduceIte, reduceCtorEq]
            omega
        · simp only [Env.sets, Env.set, BE.den, IE.den, DV.int, Nat.reduceEqDiff, ↓reduceIte, reduceCtorEq, decide_eq_false_iff_not] at hc
          omega
  · cases hp

theorem ok12 : ContractOk Try.prog 12 c12 := by
  refine contract_of (Γ := knownOf [(17, c17)]) (known_cons ok17 rfl known_nil) Try.func12 rfl rfl is12 fun ds hk hp => ?_
  split at hp
  · rename_i px py pw ph
    refine h_call (c := c17) rfl trivial fun rs hk hr => ?_
    have hr : rs = [.b (decide (-8192 ≤ px) && decide (px ≤ 8192))] := hr
    subst hr
    refine h_callg (c := c17) rfl (fun _ => trivial) fun rs hk hr1 => ?_
    obtain ⟨b1, rfl⟩ := kinds1b hk
    refine h_callg (c := c17) rfl (fun _ => trivial) fun rs hk hr2 => ?_
    obtain ⟨b2, rfl⟩ := kinds1b hk
    refine h_callg (c := c17) rfl (fun _ => trivial) fun rs hk hr3 => ?_
    obtain ⟨b3, rfl⟩ := kinds1b hk
    simp only [c17, Env.sets, Env.set, BE.den, IE.den, DE.den, DV.int, DV.bool, List.map_cons, List.map_nil, Nat.reduceEqDiff, ↓reduceIte, reduceCtorEq, List.cons.injEq, DV.b.injEq, and_true] at hr1 hr2 hr3
    simp only [Tree.holds, Env.sets, Env.set, BE.den, IE.den, DE.den, DV.int, DV.bool, List.map_cons, List.map_nil, Nat.reduceEqDiff, ↓reduceIte, reduceCtorEq, List.cons.injEq, DV.b.injEq, and_true, rightB]
    cases h0 : (decide (-8192 ≤ px) && decide (px ≤ 8192))
    · simp
    · rw [h0] at hr1 hr2 hr3
      have e1 := hr1 rfl
      subst e1
      cases h1 : (decide (-8192 ≤ py) && decide (py ≤ 8192))
      · simp [Bool.and_assoc, h1]
      · rw [h1] at hr2 hr3
        have e2 := hr2 rfl
        subst e2
        cases h2 : (decide (0 ≤ pw) && decide (pw ≤ 4096))
        · simp
        · rw [h2] at hr3
          have e3 := hr3 rfl
          subst e3
          simp only [Bool.and_eq_true, decide_eq_true_eq] at h1
          simp [h1]
  · cases hp

theorem ok15 : ContractOk Try.prog 15 c15 := by
  refine contract_of (Γ := knownOf []) known_nil Try.func15 rfl rfl is15 fun ds hk hp => ?_
  split at hp
  · rename_i x y z w a b c d
    obtain ⟨⟨h1, h2, h3, h4⟩, h5, h6, h7, h8⟩ := hp
    simp only [tree15, Tree.holds, Env.sets, Env.set, BE.den, IE.den, DE.den, DV.int, List.map_cons, List.map_nil, Nat.reduceEqDiff, ↓reduceIte, reduceCtorEq, wrap_u64 h5, wrap_u64 h6, wrap_u64 h7, wrap_u64 h8, List.cons.injEq, DV.b.injEq, and_true, fitsB, cok, Bool.or_eq_true, Bool.or_eq_false_iff, decide_eq_true_eq, decide_eq_false_iff_not]
    simp only [in64] at h1 h2 h3 h4 h5 h6 h7 h8
    have fls : ∀ p : Bool, (p = true → False) → false = p := fun p h => by cases p <;> simp_all
    have tru : ∀ p : Bool, p = true → true = p := fun p h => h.symm
    refine ⟨fun g => fls _ ?_, fun g0 => ⟨fun g => fls _ ?_, fun g1 => ⟨fun g => fls _ ?_, fun g2 => ⟨fun g => fls _ ?_, fun g3 => ⟨fun g => fls _ ?_, fun g4 => ⟨fun g => fls _ ?_, fun g5 => ⟨fun g => fls _ ?_, fun g6 => ⟨fun g => fls _ ?_, fun g7 => tru _ ?_⟩⟩⟩⟩⟩⟩⟩⟩
    all_goals simp only [Bool.and_eq_true, decide_eq_true_eq]
    all_goals (repeat' split at *)
    all_goals omega
  · cases hp

end Go.Proofs.Ytmcgdadieklbjaa.Fns
