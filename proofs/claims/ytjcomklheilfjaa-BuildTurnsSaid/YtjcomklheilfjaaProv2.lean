/- Layer 7: the law BuildProvokes: plain. -/
import Derived.Test.YtjcomklheilfjaaFlags3
import Derived.Test.YtjcomklheilfjaaProv
set_option linter.unusedVariables false
set_option linter.unusedSimpArgs false
namespace Go.Proofs.Ytjcomklheilfjaa.Build
open Go.RowKit Go

/-- Where the provoking vertices stand. -/
theorem plan_prov (m i : Nat) (hm : m < 9) : (∃ k, k < (planOf m).v.length ∧ (addOf (planOf m) i).getD k 0 = (planOf m).first ∧ ((planOf m).anchored = true → k ≠ 0)) ∧ (∃ k, k < (planOf m).v.length ∧ (addOf (planOf m) i).getD k 0 = (planOf m).last ∧ ((planOf m).anchored = true → k ≠ 0)) ∧ (planOf m).first < (planOf m).v.length ∧ (planOf m).last < (planOf m).v.length := by
  unfold addOf
  match m, hm with
  | 0, _ => exact ⟨⟨0, by decide, by simp [planOf], by decide⟩, ⟨0, by decide, by simp [planOf], by decide⟩, by decide, by decide⟩
  | 1, _ => exact ⟨⟨0, by decide, by simp [planOf], by decide⟩, ⟨1, by decide, by simp [planOf], by decide⟩, by decide, by decide⟩
  | 2, _ => exact ⟨⟨0, by decide, by simp [planOf], by decide⟩, ⟨1, by decide, by simp [planOf], by decide⟩, by decide, by decide⟩
  | 3, _ => exact ⟨⟨0, by decide, by simp [planOf], by decide⟩, ⟨1, by decide, by simp [planOf], by decide⟩, by decide, by decide⟩
  | 4, _ => exact ⟨⟨0, by decide, by simp [planOf], by decide⟩, ⟨2, by decide, by simp [planOf], by decide⟩, by decide, by decide⟩
  | 5, _ =>
    refine ⟨?_, ⟨2, by decide, ?_, by decide⟩, by decide, by decide⟩
    · rcases Nat.mod_two_eq_zero_or_one i with h | h
      · exact ⟨0, by decide, by simp [planOf, h], by decide⟩
      · exact ⟨1, by decide, by simp [planOf, h], by decide⟩
    · rcases Nat.mod_two_eq_zero_or_one i with h | h <;> simp [planOf, h]
  | 6, _ => exact ⟨⟨1, by decide, by simp [planOf], by decide⟩, ⟨2, by decide, by simp [planOf], by decide⟩, by decide, by decide⟩
  | 7, _ => exact ⟨⟨0, by decide, by simp [planOf], by decide⟩, ⟨3, by decide, by simp [planOf], by decide⟩, by decide, by decide⟩
  | 8, _ => exact ⟨⟨0, by decide, by simp [planOf], by decide⟩, ⟨2, by decide, by simp [planOf], by decide⟩, by decide, by decide⟩
theorem count_room (m n i : Nat) (hm : m < 9) (h3 : m ≠ 3) (hi : i < countN m n) : (planOf m).step * (i : Int) + (planOf m).v.length ≤ n := by
  have hc : countN m n = (countF m n).toNat := rfl
  unfold countF at hc
  by_cases h1 : (m : Int) < 0 ∨ 9 < (m : Int) ∨ (n : Int) < 1 ∨ 256 < (n : Int)
  · rw [if_pos h1] at hc; simp at hc; omega
  rw [if_neg h1, if_neg (by omega), if_neg (by omega), Int.toNat_natCast] at hc
  by_cases h4 : (n : Int) < (planOf m).v.length
  · rw [if_pos h4] at hc; simp at hc; omega
  rw [if_neg h4] at hc
  obtain ⟨s1, s2⟩ := planOf_step m
  rw [Int.tdiv_eq_ediv_of_nonneg (by omega)] at hc
  have h5 := Int.ediv_nonneg (a := (n : Int) - (planOf m).v.length) (b := (planOf m).step) (by omega) (by omega)
  have h6 : (i : Int) ≤ ((n : Int) - (planOf m).v.length) / (planOf m).step := by omega
  have h7 := (Int.le_ediv_iff_mul_le (show 0 < (planOf m).step by omega)).1 h6
  rw [Int.mul_comm]
  omega
theorem count_three (n i : Nat) (hi : i < countN 3 n) : 2 ≤ n ∧ i < n := by
  have hc : countN 3 n = (countF 3 n).toNat := rfl
  unfold countF at hc
  by_cases h1 : (3 : Int) < 0 ∨ 9 < (3 : Int) ∨ (n : Int) < 1 ∨ 256 < (n : Int)
  · rw [if_pos h1] at hc; simp at hc; omega
  rw [if_neg h1, if_neg (by decide), if_pos (by decide)] at hc
  by_cases h4 : (n : Int) = 1
  · rw [if_pos h4] at hc; simp at hc; omega
  · rw [if_neg h4] at hc; omega
/-- The provoking vertex's number. -/
def pfF (m n : Nat) (first : Bool) (i : Nat) : Int := if first then (planOf m).step * i + (planOf m).first else ((planOf m).step * i + (planOf m).last) % (n : Int)
theorem pf_nat (m n i : Nat) (first : Bool) (hm : m < 9) (hn : n ≤ 100) (hi : i < countN m n) : ∃ r : Nat, pfF m n first i = r ∧ r < 256 ∧ pfF m n first i = if first then (planOf m).step * i + (planOf m).first else if m = 3 ∧ i + 1 = n then 0 else (planOf m).step * i + (planOf m).last := by
  obtain ⟨s1, s2⟩ := planOf_step m
  obtain ⟨⟨f1, f2⟩, ⟨l1, l2⟩, _⟩ := planOf_bd m
  obtain ⟨_, _, f3, l3⟩ := plan_prov m i hm
  have hsi : 0 ≤ (planOf m).step * (i : Int) := Int.mul_nonneg (by omega) (by omega)
  by_cases h3 : m = 3
  · subst h3
    obtain ⟨n2, hin⟩ := count_three n i hi
    have hstep : (planOf 3).step = 1 := rfl
    have hfirst : (planOf 3).first = 0 := rfl
    have hlast : (planOf 3).last = 1 := rfl
    unfold pfF
    rw [hstep, hfirst, hlast]
    cases first with
    | true => exact ⟨i, by simp, by omega, by simp⟩
    | false =>
      by_cases h : i + 1 = n
      · have e : (1 * (i : Int) + 1) % (n : Int) = 0 := by
          have : (1 * (i : Int) + 1) = n := by omega
          rw [this]; exact Int.emod_self
        simp only [Bool.false_eq_true, if_false]
        rw [e, if_pos ⟨trivial, h⟩]
        exact ⟨0, rfl, by omega, rfl⟩
      · have e : (1 * (i : Int) + 1) % (n : Int) = 1 * (i : Int) + 1 := Int.emod_eq_of_lt (by omega) (by omega)
        simp only [Bool.false_eq_true, if_false]
        rw [e, if_neg (fun x => h x.2)]
        exact ⟨i + 1, by omega, by omega, rfl⟩
  · have hr := count_room m n i hm h3 hi
    unfold pfF
    cases first with
    | true => exact ⟨((planOf m).step * i + (planOf m).first).toNat, by simp; omega, by omega, by simp⟩
    | false =>
      have e : ((planOf m).step * (i : Int) + (planOf m).last) % (n : Int) = (planOf m).step * (i : Int) + (planOf m).last := Int.emod_eq_of_lt (by omega) (by omega)
      simp only [Bool.false_eq_true, if_false]
      rw [e, if_neg (fun x => h3 x.1)]
      exact ⟨((planOf m).step * i + (planOf m).last).toNat, by omega, by omega, rfl⟩
theorem pf_inj (m n i j : Nat) (first : Bool) (hm : m < 9) (hn : n ≤ 100) (hi : i < countN m n) (hj : j < countN m n) (h : pfF m n first i = pfF m n first j) : i = j := by
  obtain ⟨_, _, _, ei⟩ := pf_nat m n i first hm hn hi
  obtain ⟨_, _, _, ej⟩ := pf_nat m n j first hm hn hj
  rw [ei, ej] at h
  obtain ⟨s1, s2⟩ := planOf_step m
  obtain ⟨⟨f1, f2⟩, ⟨l1, l2⟩, _⟩ := planOf_bd m
  have key : (planOf m).step * (i : Int) = (planOf m).step * (j : Int) → i = j := fun e => by
    have := Int.eq_of_mul_eq_mul_left (show (planOf m).step ≠ 0 by omega) e
    omega
  have hsi : 0 ≤ (planOf m).step * (i : Int) := Int.mul_nonneg (by omega) (by omega)
  have hsj : 0 ≤ (planOf m).step * (j : Int) := Int.mul_nonneg (by omega) (by omega)
  cases first with
  | true => simp at h; exact key h
  | false =>
    simp only [Bool.false_eq_true, if_false] at h
    by_cases h3 : m = 3
    · subst h3
      have hlast : (planOf 3).last = 1 := rfl
      rw [hlast] at h
      split at h <;> split at h <;> first | omega | exact key (by omega)
    · rw [if_neg (fun x => h3 x.1), if_neg (fun x => h3 x.1)] at h
      exact key (by omega)
theorem pf_in (m n i : Nat) (first : Bool) (hm : m < 9) (hn : n ≤ 100) (hi : i < countN m n) : ∃ k, k < (vertsOf (planOf m) n i).length ∧ (vertsOf (planOf m) n i).getD k 0 = pfF m n first i := by
  obtain ⟨⟨k1, a1, a2, a3⟩, ⟨k2, b1, b2, b3⟩, f3, l3⟩ := plan_prov m i hm
  cases first with
  | true =>
    refine ⟨k1, by rw [vertsOf_len]; exact a1, ?_⟩
    rw [vertsOf_get _ _ _ _ a1]
    unfold vertF
    rw [if_neg (fun x => a3 x.1 x.2), a2]
    show _ % (n : Int) = (planOf m).step * i + (planOf m).first
    obtain ⟨⟨f1, f2⟩, _⟩ := planOf_bd m
    obtain ⟨s1, s2⟩ := planOf_step m
    have hsi : 0 ≤ (planOf m).step * (i : Int) := Int.mul_nonneg (by omega) (by omega)
    refine Int.emod_eq_of_lt (by omega) ?_
    by_cases h3 : m = 3
    · subst h3
      have := (count_three n i hi).2
      show 1 * (i : Int) + 0 < n
      omega
    · have := count_room m n i hm h3 hi
      omega
  | false =>
    refine ⟨k2, by rw [vertsOf_len]; exact b1, ?_⟩
    rw [vertsOf_get _ _ _ _ b1]
    unfold vertF
    rw [if_neg (fun x => b3 x.1 x.2), b2]
    rfl
theorem primsF_get (m : Nat) (fs : List Bool) (first : Bool) (i : Nat) (hi : i < countN m fs.length) : (primsF m fs first).getD i ⟨[], [], 0⟩ = primF (planOf m) fs first i := by
  unfold primsF
  simp [List.getD_eq_getElem?_getD, hi]
theorem primsF_len (m : Nat) (fs : List Bool) (first : Bool) : (primsF m fs first).length = countN m fs.length := by
  unfold primsF
  rw [List.length_map, List.length_range]
theorem prov_ok (m : Nat) (hm : m < 10) (fs : List Bool) (hl : fs.length ≤ 100) : ProvOk (primsA (m : Int) fs true) (primsA (m : Int) fs false) := by
  have he : errF m fs.length = 0 := by unfold errF; rw [if_neg (by omega), if_neg (by omega)]
  have hA := primsA_small m fs (by omega) true
  have hPA : ∀ first, primsA (m : Int) fs first = if (m : Int) = 9 then wholeF fs else primsF m fs first := fun first => by
    unfold primsA
    rw [if_neg (by rw [he]; simp), Int.toNat_natCast]
  rw [hPA] at hA
  rw [hPA, hPA]
  by_cases h9 : m = 9
  · subst h9
    rw [if_pos (by decide), if_pos (by decide)]
    unfold wholeF
    by_cases h3 : fs.length < 3
    · rw [if_pos h3]
      exact ⟨rfl, by simp, fun i hi => by simp at hi, fun i hi => by simp at hi, fun i hi => by simp at hi, fun i hi => by simp at hi, fun i j hi => by simp at hi, fun i j hi => by simp at hi⟩
    · rw [if_neg h3]
      have key : ∀ i, i < 1 → pnat [⟨allV fs.length, sidesF (allV fs.length) fs true, 0⟩] i = 0 ∧ (([⟨allV fs.length, sidesF (allV fs.length) fs true, 0⟩] : List PrimD).getD i ⟨[], [], 0⟩) = ⟨allV fs.length, sidesF (allV fs.length) fs true, 0⟩ := fun i hi => by
        have : i = 0 := by omega
        subst this; exact ⟨rfl, rfl⟩
      have hP : ∀ i, i < 1 → ((([⟨allV fs.length, sidesF (allV fs.length) fs true, 0⟩] : List PrimD).getD i ⟨[], [], 0⟩).P = (pnat [⟨allV fs.length, sidesF (allV fs.length) fs true, 0⟩] i : Int) ∧ pnat [⟨allV fs.length, sidesF (allV fs.length) fs true, 0⟩] i < 256 ∧ hasF (([⟨allV fs.length, sidesF (allV fs.length) fs true, 0⟩] : List PrimD).getD i ⟨[], [], 0⟩).V (pnat [⟨allV fs.length, sidesF (allV fs.length) fs true, 0⟩] i : Int) (([⟨allV fs.length, sidesF (allV fs.length) fs true, 0⟩] : List PrimD).getD i ⟨[], [], 0⟩).V.length = true) := fun i hi => by
        obtain ⟨k1, k2⟩ := key i hi
        rw [k1, k2]
        refine ⟨rfl, by omega, hasF_of _ _ 0 _ ?_ ?_⟩
        · show 0 < (allV fs.length).length
          rw [allV_len]; omega
        · show (allV fs.length).getD 0 0 = _
          rw [allV_get _ _ (by omega)]
      refine ⟨rfl, by simp, fun i hi => rfl, fun i hi => ?_, hP, hP, fun i j hi hj _ => ?_, fun i j hi hj _ => ?_⟩
      · rw [(key i hi).2]
        show (allV fs.length).length ≤ 256
        rw [allV_len]; omega
      · simp at hi hj; omega
      · simp at hi hj; omega
  · have hm9' : ¬ (m : Int) = 9 := by omega
    rw [if_neg hm9'] at hA
    rw [if_neg hm9', if_neg hm9']
    have hm9 : m < 9 := by omega
    have hlenA := primsF_len m fs true
    have hlenB := primsF_len m fs false
    have hPn : ∀ first i, i < countN m fs.length → (primF (planOf m) fs first i).P = (pnat (primsF m fs first) i : Int) ∧ pnat (primsF m fs first) i < 256 ∧ (pnat (primsF m fs first) i : Int) = pfF m fs.length first i := fun first i hi => by
      obtain ⟨r, h1, h2, _⟩ := pf_nat m fs.length i first hm9 hl hi
      have e : (primF (planOf m) fs first i).P = pfF m fs.length first i := rfl
      have e2 : pnat (primsF m fs first) i = r := by
        unfold pnat
        rw [primsF_get _ _ _ _ hi, e, h1]; simp
      rw [e, e2, h1]
      exact ⟨rfl, h2, rfl⟩
    have hin : ∀ first i, i < countN m fs.length → hasF (vertsOf (planOf m) fs.length i) (pnat (primsF m fs first) i : Int) (vertsOf (planOf m) fs.length i).length = true := fun first i hi => by
      obtain ⟨k, k1, k2⟩ := pf_in m fs.length i first hm9 hl hi
      refine hasF_of _ _ k _ k1 ?_
      rw [k2, (hPn first i hi).2.2]
    have hinj : ∀ first i j, i < countN m fs.length → j < countN m fs.length → pnat (primsF m fs first) i = pnat (primsF m fs first) j → i = j := fun first i j hi hj h => by
      refine pf_inj m fs.length i j first hm9 hl hi hj ?_
      rw [← (hPn first i hi).2.2, ← (hPn first j hj).2.2, h]
    refine ⟨by rw [hlenA, hlenB], hA, fun i hi => ?_, fun i hi => ?_, fun i hi => ?_, fun i hi => ?_, fun i j hi hj h => ?_, fun i j hi hj h => ?_⟩
    · rw [hlenA] at hi
      rw [primsF_get _ _ _ _ hi, primsF_get _ _ _ _ hi]; rfl
    · rw [hlenA] at hi
      rw [primsF_get _ _ _ _ hi]
      show (vertsOf (planOf m) fs.length i).length ≤ 256
      rw [vertsOf_len]
      have := (plan_facts m hm9).2.2.1
      omega
    · rw [hlenA] at hi
      obtain ⟨a, b, c⟩ := hPn true i hi
      rw [primsF_get _ _ _ _ hi]
      exact ⟨a, b, hin true i hi⟩
    · rw [hlenA] at hi
      obtain ⟨a, b, c⟩ := hPn false i hi
      rw [primsF_get _ _ _ _ hi, primsF_get _ _ _ _ hi]
      exact ⟨a, b, hin false i hi⟩
    · rw [hlenA] at hi hj
      exact hinj true i j hi hj h
    · rw [hlenA] at hi hj
      exact hinj false i j hi hj h
theorem provokes_any (n8 : Nat) (hn8 : n8 < 256) (fb : Option Addr) (fcap : Nat) (fs : List Bool) (w : World) (hF : FlagR w fb fs) :
    Calls Try.prog 5 #[.int .u8 n8, .slice fb fs.length fcap] w fun e w' => e = .returned (.bool true) ∧ Below w.heap.size w w' := by
  rcases Nat.lt_or_ge 100 fs.length with h | h
  · exact provokes_long n8 fb fs.length fcap w h
  · exact provokes_short n8 hn8 fb fcap fs w h hF (prov_ok (n8 % 10) (by omega) fs h)
end Go.Proofs.Ytjcomklheilfjaa.Build
