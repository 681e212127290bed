/- Layer 11: the map, both ways. -/
import Derived.Test.YtmcgdadieklbjaaFns
set_option linter.unusedVariables false
set_option linter.unusedSimpArgs false
set_option maxRecDepth 10000
namespace Go.Proofs.Ytmcgdadieklbjaa.Fns
open Go.Sx Go.Proofs.Ytmcgdadieklbjaa.Trees

def c8 : Contract := CFn sg8 (fun | [.i x, .i y, .i z, .i w, .i a, .i b, .i c, .i d, .i px, .i py, .i pw, .i ph] => vert64 x y z w a b c d ∧ port64 px py pw ph | _ => False)
  (fun | [.i x, .i y, .i z, .i w, .i a, .i b, .i c, .i d, .i px, .i py, .i pw, .i ph] => mapV x y z w a b c d px py pw ph | _ => [])
def c9 : Contract := CFn sg9 (fun | [.i x, .i y, .i z, .i w, .i a, .i b, .i c, .i d, .i px, .i py, .i pw, .i ph] => True | _ => False)
  (fun | [.i x, .i y, .i z, .i w, .i a, .i b, .i c, .i d, .i px, .i py, .i pw, .i ph] => mapV x y z w a b c d px py pw ph | _ => [])
def c10 : Contract := CFn sg10 (fun | [] => True | _ => False) (fun | [] => [.b true] | _ => [])

theorem side_bd {s x w : Int} (h1 : 0 ≤ s) (h2 : s ≤ 4096) (h3 : 1 ≤ w) (h4 : w ≤ 68719476736) (h5 : -68719476736 ≤ x) (h6 : x ≤ 68719476736) :
    (-72057594037927936 ≤ s * 128 * (x + w) ∧ s * 128 * (x + w) ≤ 72057594037927936) ∧ (-72057594037927936 ≤ s * 128 * (x + w) / w ∧ s * 128 * (x + w) / w ≤ 72057594037927936) := by
  have h := mul_bd (a := s * 128) (b := x + w) (A := 524288) (B := 137438953472) (by omega) (by omega) (by omega) (by omega)
  obtain ⟨g1, g2⟩ := div_bd (n := s * 128 * (x + w)) (d := w) h3
  generalize s * 128 * (x + w) / w = q at *
  generalize s * 128 * (x + w) = p at *
  omega

theorem ok8 : ContractOk Try.prog 8 c8 := by
  refine contract_of (Γ := knownOf [(11, c11), (15, c15), (16, c16)]) (known_cons ok11 rfl (known_cons ok15 rfl (known_cons ok16 rfl known_nil))) Try.func8 rfl rfl is8 fun ds hk hp => ?_
  split at hp
  · rename_i x y z w a b c d px py pw ph
    obtain ⟨hv, hpt⟩ := hp
    refine h_call (c := c11) rfl hpt fun rs hk hr => ?_
    have hr : rs = [.b (rightB px py pw ph)] := hr
    subst hr
    refine h_callg (c := c15) rfl (fun _ => hv) fun rs hk hr2 => ?_
    obtain ⟨b2, rfl⟩ := kinds1b hk
    have hr2 : rightB px py pw ph = true → [DV.b b2] = [DV.b (fitsB x y z w a b c d)] := hr2
    refine h_ite (fun hc => ?_) (fun hc => ?_)
    · have hbad : (rightB px py pw ph && fitsB x y z w a b c d) = false := by
        simp only [Env.sets, Env.set, BE.den, DV.bool, Nat.reduceEqDiff, ↓reduceIte, reduceCtorEq, Bool.or_eq_true, Bool.not_eq_true'] at hc
        cases hR : rightB px py pw ph
        · rfl
        · have := hr2 hR
          simp only [List.cons.injEq, DV.b.injEq, and_true] at this
          rw [hR] at hc
          simp only [Bool.true_and, ← this]
          simpa using hc
      show _ = mapV x y z w a b c d px py pw ph
      unfold mapV
      rw [hbad]
      rfl
    · simp only [Env.sets, Env.set, BE.den, DV.bool, Nat.reduceEqDiff, ↓reduceIte, reduceCtorEq, Bool.or_eq_false_iff, Bool.not_eq_false'] at hc
      obtain ⟨hR, rfl⟩ := hc
      have hF := hr2 hR
      simp only [List.cons.injEq, DV.b.injEq, and_true] at hF
      have hF := hF.symm
      obtain ⟨r1, r2, r3, r4, r5, r6, r7, r8⟩ := right_spec hR
      obtain ⟨f1, f2, f3, f4, f5, f6, f7, f8⟩ := fits_spec hF
      obtain ⟨⟨m1, m2⟩, m3, m4⟩ := side_bd r5 r6 f1 f2 f3 f4
      obtain ⟨⟨k1, k2⟩, k3, k4⟩ := side_bd r7 r8 f1 f2 f5 f6
      refine h_need (by simp [Env.sets, Env.set, BE.den, IE.den, DV.int]; omega) (h_need (by simp [Env.sets, Env.set, BE.den, IE.den, DV.int]; omega) (h_need (by simp [Env.sets, Env.set, BE.den, IE.den, DV.int]; omega) (h_need (by simp [Env.sets, Env.set, BE.den, IE.den, DV.int]; omega)
        (h_call (c := c16) rfl (show in64 (pw * 128 * (x + w)) ∧ -4611686018427387904 ≤ pw * 128 * (x + w) ∧ 1 ≤ w from ⟨⟨by omega, by omega⟩, by omega, f1⟩) fun rs hk hr => ?_))))
      have hr : rs = [.i (pw * 128 * (x + w) / w)] := hr
      subst hr
      refine h_need (by simp [Env.sets, Env.set, BE.den, IE.den, DV.int]; omega) (h_need (by simp [Env.sets, Env.set, BE.den, IE.den, DV.int]; omega) (h_need (by simp [Env.sets, Env.set, BE.den, IE.den, DV.int]; omega) (h_need (by simp [Env.sets, Env.set, BE.den, IE.den, DV.int]; omega) (h_need (by simp [Env.sets, Env.set, BE.den, IE.den, DV.int]; omega)
        (h_call (c := c16) rfl (show in64 (ph * 128 * (y + w)) ∧ -4611686018427387904 ≤ ph * 128 * (y + w) ∧ 1 ≤ w from ⟨⟨by omega, by omega⟩, by omega, f1⟩) fun rs hk hr => ?_)))))
      have hr : rs = [.i (ph * 128 * (y + w) / w)] := hr
      subst hr
      refine h_need (by simp [Env.sets, Env.set, BE.den, IE.den, DV.int]; omega) (h_ite (fun hc => ?_) (fun hc => ?_))
      · have hc : farB (side px pw x w) (side py ph y w) = true := hc
        show _ = mapV x y z w a b c d px py pw ph
        unfold mapV
        rw [hR, hF, hc]
        rfl
      · have hc : farB (side px pw x w) (side py ph y w) = false := hc
        refine h_need (by simp [Env.sets, Env.set, BE.den, IE.den, DV.int]; omega) (h_need (by simp [Env.sets, Env.set, BE.den, IE.den, DV.int]; omega) (h_need (by simp [Env.sets, Env.set, BE.den, IE.den, DV.int]; omega)
          (h_call (c := c16) rfl (show in64 (16777215 * (z + w)) ∧ -4611686018427387904 ≤ 16777215 * (z + w) ∧ 1 ≤ 2 * w from ⟨⟨by omega, by omega⟩, by omega, by omega⟩) fun rs hk hr => ?_)))
        have hr : rs = [.i (16777215 * (z + w) / (2 * w))] := hr
        subst hr
        show _ = mapV x y z w a b c d px py pw ph
        unfold mapV
        rw [hR, hF, hc]
        rfl
  · cases hp

theorem guarded {g b v : Bool} (h : g = true → [DV.b b] = [DV.b v]) : (g && b) = (g && v) := by
  cases g
  · rfl
  · have := h rfl
    simp only [List.cons.injEq, DV.b.injEq, and_true] at this
    rw [this]

theorem ok9 : ContractOk Try.prog 9 c9 := by
  refine contract_of (Γ := knownOf [(12, c12), (17, c17), (18, c18)]) (known_cons ok12 rfl (known_cons ok17 rfl (known_cons ok18 rfl known_nil))) Try.func9 rfl rfl is9 fun ds hk hp => ?_
  split at hp
  · rename_i x y z w a b c d px py pw ph
    refine h_call (c := c12) rfl trivial fun rs hk hr => ?_
    have hr : rs = [.b (rightB px py pw ph)] := hr
    subst hr
    obtain ⟨R, hR⟩ : ∃ R, rightB px py pw ph = R := ⟨_, rfl⟩
    rw [hR]
    refine h_callg (c := c17) rfl (fun _ => trivial) fun rs hk h1 => ?_
    obtain ⟨b1, rfl⟩ := kinds1b hk
    have h1 : (R && b1) = (R && (decide (1 ≤ w) && decide (w ≤ 68719476736))) := guarded h1
    refine h_callg (c := c17) rfl (fun _ => trivial) fun rs hk h2 => ?_
    obtain ⟨b2, rfl⟩ := kinds1b hk
    have h2 : ((R && b1) && b2) = ((R && b1) && (decide (-68719476736 ≤ x) && decide (x ≤ 68719476736))) := guarded h2
    refine h_callg (c := c17) rfl (fun _ => trivial) fun rs hk h3 => ?_
    obtain ⟨b3, rfl⟩ := kinds1b hk
    have h3 : (((R && b1) && b2) && b3) = (((R && b1) && b2) && (decide (-68719476736 ≤ y) && decide (y ≤ 68719476736))) := guarded h3
    refine h_callg (c := c17) rfl (fun _ => trivial) fun rs hk h4 => ?_
    obtain ⟨b4, rfl⟩ := kinds1b hk
    have h4 : ((((R && b1) && b2) && b3) && b4) = ((((R && b1) && b2) && b3) && (decide (-68719476736 ≤ z) && decide (z ≤ 68719476736))) := guarded h4
    refine h_callg (c := c17) rfl (fun _ => trivial) fun rs hk h5 => ?_
    obtain ⟨b5, rfl⟩ := kinds1b hk
    have h5 : (((((R && b1) && b2) && b3) && b4) && b5) = (((((R && b1) && b2) && b3) && b4) && cok a) := guarded h5
    refine h_callg (c := c17) rfl (fun _ => trivial) fun rs hk h6 => ?_
    obtain ⟨b6, rfl⟩ := kinds1b hk
    have h6 : ((((((R && b1) && b2) && b3) && b4) && b5) && b6) = ((((((R && b1) && b2) && b3) && b4) && b5) && cok b) := guarded h6
    refine h_callg (c := c17) rfl (fun _ => trivial) fun rs hk h7 => ?_
    obtain ⟨b7, rfl⟩ := kinds1b hk
    have h7 : (((((((R && b1) && b2) && b3) && b4) && b5) && b6) && b7) = (((((((R && b1) && b2) && b3) && b4) && b5) && b6) && cok c) := guarded h7
    refine h_callg (c := c17) rfl (fun _ => trivial) fun rs hk h8 => ?_
    obtain ⟨b8, rfl⟩ := kinds1b hk
    have h8 : ((((((((R && b1) && b2) && b3) && b4) && b5) && b6) && b7) && b8) = ((((((((R && b1) && b2) && b3) && b4) && b5) && b6) && b7) && cok d) := guarded h8
    have hall : ((((((((R && b1) && b2) && b3) && b4) && b5) && b6) && b7) && b8) = (R && fitsB x y z w a b c d) := by
      rw [h8, h7, h6, h5, h4, h3, h2, h1]
      cases R
      · simp
      · rw [Bool.eq_iff_iff]
        simp only [fitsB, Bool.and_eq_true, decide_eq_true_eq, Bool.true_and]
        constructor
        · rintro ⟨⟨⟨⟨⟨⟨⟨⟨q1, q2⟩, q3, q4⟩, q5, q6⟩, q7, q8⟩, q9⟩, q10⟩, q11⟩, q12⟩
          exact ⟨⟨q1, q2, q3, q4, q5, q6, q7, q8⟩, ⟨⟨q9, q10⟩, q11⟩, q12⟩
        · rintro ⟨⟨q1, q2, q3, q4, q5, q6, q7, q8⟩, ⟨⟨q9, q10⟩, q11⟩, q12⟩
          exact ⟨⟨⟨⟨⟨⟨⟨⟨q1, q2⟩, q3, q4⟩, q5, q6⟩, q7, q8⟩, q9⟩, q10⟩, q11⟩, q12⟩
    refine h_ite (fun hc => ?_) (fun hc => ?_)
    · have hc : (!((((((((R && b1) && b2) && b3) && b4) && b5) && b6) && b7) && b8)) = true := hc
      rw [hall, Bool.not_eq_true'] at hc
      show _ = mapV x y z w a b c d px py pw ph
      unfold mapV
      rw [hR, hc]
      rfl
    · have hc : (!((((((((R && b1) && b2) && b3) && b4) && b5) && b6) && b7) && b8)) = false := hc
      rw [hall, Bool.not_eq_false'] at hc
      have hc2 := hc
      rw [Bool.and_eq_true] at hc2
      obtain ⟨hRt, hF⟩ := hc2
      subst hRt
      obtain ⟨r1, r2, r3, r4, r5, r6, r7, r8⟩ := right_spec hR
      obtain ⟨f1, f2, f3, f4, f5, f6, f7, f8⟩ := fits_spec hF
      obtain ⟨⟨m1, m2⟩, m3, m4⟩ := side_bd r5 r6 f1 f2 f3 f4
      obtain ⟨⟨k1, k2⟩, k3, k4⟩ := side_bd r7 r8 f1 f2 f5 f6
      rw [Int.mul_comm pw 128] at m1 m2 m3 m4
      rw [Int.mul_comm ph 128] at k1 k2 k3 k4
      refine h_need (by simp [Env.sets, Env.set, BE.den, IE.den, DV.int]; omega) (h_need (by simp [Env.sets, Env.set, BE.den, IE.den, DV.int]; omega) (h_need (by simp [Env.sets, Env.set, BE.den, IE.den, DV.int]; omega) (h_need (by simp [Env.sets, Env.set, BE.den, IE.den, DV.int]; omega)
        (h_call (c := c18) rfl (show downPre (128 * pw * (x + w)) w from ⟨by omega, by omega, f1, by omega⟩) fun rs hk hr => ?_))))
      have hr : rs = [.i (128 * pw * (x + w) / w)] := hr
      subst hr
      refine h_need (by simp [Env.sets, Env.set, BE.den, IE.den, DV.int]; omega) (h_need (by simp [Env.sets, Env.set, BE.den, IE.den, DV.int]; omega) (h_need (by simp [Env.sets, Env.set, BE.den, IE.den, DV.int]; omega) (h_need (by simp [Env.sets, Env.set, BE.den, IE.den, DV.int]; omega) (h_need (by simp [Env.sets, Env.set, BE.den, IE.den, DV.int]; omega)
        (h_call (c := c18) rfl (show downPre (128 * ph * (y + w)) w from ⟨by omega, by omega, f1, by omega⟩) fun rs hk hr => ?_)))))
      have hr : rs = [.i (128 * ph * (y + w) / w)] := hr
      subst hr
      refine h_need (by simp [Env.sets, Env.set, BE.den, IE.den, DV.int]; omega) (h_need (by simp [Env.sets, Env.set, BE.den, IE.den, DV.int]; omega) (h_need (by simp [Env.sets, Env.set, BE.den, IE.den, DV.int]; omega) (h_need (by simp [Env.sets, Env.set, BE.den, IE.den, DV.int]; omega)
          (h_call (c := c18) rfl (show downPre (16777215 * (z + w)) (2 * w) from ⟨by omega, by omega, by omega, by omega⟩) fun rs hk hr => ?_))))
      have hr : rs = [.i (16777215 * (z + w) / (2 * w))] := hr
      subst hr
      have e1 : 256 * px + 128 * pw * (x + w) / w = side px pw x w := by unfold side; rw [Int.mul_comm 256, Int.mul_comm 128]
      have e2 : 256 * py + 128 * ph * (y + w) / w = side py ph y w := by unfold side; rw [Int.mul_comm 256, Int.mul_comm 128]
      refine h_call (c := c17) rfl trivial fun rs hk hr => ?_
      have hr : rs = [.b (decide (-268435456 ≤ 256 * px + 128 * pw * (x + w) / w) && decide (256 * px + 128 * pw * (x + w) / w ≤ 268435456))] := hr
      subst hr
      refine h_callg (c := c17) rfl (fun _ => trivial) fun rs hk h9 => ?_
      obtain ⟨b9, rfl⟩ := kinds1b hk
      obtain ⟨g, hg⟩ : ∃ g, (decide (-268435456 ≤ 256 * px + 128 * pw * (x + w) / w) && decide (256 * px + 128 * pw * (x + w) / w ≤ 268435456)) = g := ⟨_, rfl⟩
      rw [hg] at h9 ⊢
      have h9 : (g && b9) = (g && (decide (-268435456 ≤ 256 * py + 128 * ph * (y + w) / w) && decide (256 * py + 128 * ph * (y + w) / w ≤ 268435456))) := guarded h9
      have hfar : (g && b9) = !(farB (side px pw x w) (side py ph y w)) := by
        rw [h9, ← hg, e1, e2]
        generalize side px pw x w = X
        generalize side py ph y w = Y
        rw [Bool.eq_iff_iff]
        simp only [farB, Bool.and_eq_true, decide_eq_true_eq, Bool.not_eq_true', Bool.or_eq_false_iff, decide_eq_false_iff_not]
        omega
      refine h_ite (fun hc => ?_) (fun hc => ?_)
      · have hc : (!g || !b9) = true := hc
        have : farB (side px pw x w) (side py ph y w) = true := by
          rw [← Bool.not_and, hfar, Bool.not_not] at hc
          exact hc
        show _ = mapV x y z w a b c d px py pw ph
        unfold mapV
        rw [hR, hF, this]
        rfl
      · have hc : (!g || !b9) = false := hc
        have : farB (side px pw x w) (side py ph y w) = false := by
          rw [← Bool.not_and, hfar, Bool.not_not] at hc
          exact hc
        show _ = mapV x y z w a b c d px py pw ph
        unfold mapV
        rw [hR, hF, this, ← e1, ← e2]
        simp only [Tree.holds, Env.sets, Env.set, BE.den, IE.den, DE.den, DV.int, DV.bool, List.map_cons, List.map_nil, Nat.reduceEqDiff, ↓reduceIte, reduceCtorEq, Bool.true_and, Bool.and_self, Bool.false_eq_true, deep]
        have : max 0 (min (16777215 * (z + w) / (2 * w)) 16777215) = min (max (16777215 * (z + w) / (2 * w)) 0) 16777215 := by omega
        rw [this]
  · cases hp

theorem ok10 : ContractOk Try.prog 10 c10 := by
  refine contract_of (Γ := knownOf [(8, c8), (13, c13)]) (known_cons ok8 rfl (known_cons ok13 rfl known_nil)) Try.func10 rfl rfl is10 fun ds hk hp => ?_
  split at hp
  · refine h_call (c := c8) rfl (by simp [c8, DE.den, IE.den, vert64, port64, in64]) fun rs hk hr => ?_
    have hr : rs = mapV 0 0 0 7 0 0 0 0 0 0 10 0 := hr
    rw [show mapV 0 0 0 7 0 0 0 0 0 0 10 0 = [.i 1280, .i 0, .i 8388607, .i 0, .i 0, .i 0, .i 0, .i 0] by rfl] at hr
    subst hr
    refine h_cally (c := c13) rfl (by simp [Env.sets, Env.set, BE.den, IE.den, DV.int]) trivial fun rs hk hr => ?_
    have hr : rs = [.i (-1)] := hr
    subst hr
    simp [Tree.holds, DE.den, BE.den, IE.den, Env.sets, Env.set, DV.bool, DV.int]
  · cases hp

end Go.Proofs.Ytmcgdadieklbjaa.Fns
