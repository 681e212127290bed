/- Layer 7: the law BuildTurns: plain. -/
import Derived.Test.YtjcomklheilfjaaProv2
import Derived.Test.YtjcomklheilfjaaTurn
set_option linter.unusedVariables false
set_option linter.unusedSimpArgs false
namespace Go.Proofs.Ytjcomklheilfjaa.Build
open Go.RowKit Go

theorem verts_5 (n i : Nat) (h : i + 3 ≤ n) : vertsOf (planOf 5) n i = if i % 2 = 1 then [(i : Int) + 1, i, i + 2] else [(i : Int), i + 1, i + 2] := by
  have e0 : ((i : Int)) % (n : Int) = i := Int.emod_eq_of_lt (by omega) (by omega)
  have e1 : ((i : Int) + 1) % (n : Int) = i + 1 := Int.emod_eq_of_lt (by omega) (by omega)
  have e2 : ((i : Int) + 2) % (n : Int) = i + 2 := Int.emod_eq_of_lt (by omega) (by omega)
  rcases Nat.mod_two_eq_zero_or_one i with hp | hp
  · rw [if_neg (by omega)]
    simp [vertsOf, vertF, addOf, planOf, hp, List.range_succ, e0, e1, e2]
  · rw [if_pos hp]
    simp [vertsOf, vertF, addOf, planOf, hp, List.range_succ, e0, e1, e2]
theorem verts_6 (n i : Nat) (h : i + 3 ≤ n) : vertsOf (planOf 6) n i = [(0 : Int), i + 1, i + 2] := by
  have e1 : ((i : Int) + 1) % (n : Int) = i + 1 := Int.emod_eq_of_lt (by omega) (by omega)
  have e2 : ((i : Int) + 2) % (n : Int) = i + 2 := Int.emod_eq_of_lt (by omega) (by omega)
  simp [vertsOf, vertF, addOf, planOf, List.range_succ, e1, e2]
def ag1 (a b c d : Int) : Nat := if a = b ∧ c = d then 1 else 0
theorem tot_eq (a b c d e f : Int) : totF [a, b, c] [d, e, f] 3 = ag1 a e b d + ag1 a f b e + ag1 a d b f + (ag1 b e c d + ag1 b f c e + ag1 b d c f) + (ag1 c e a d + ag1 c f a e + ag1 c d a f) := by
  have h : ∀ (a b c d : Int), (if ((a == b) && (c == d)) = true then 1 else 0) = ag1 a b c d := fun a b c d => by
    unfold ag1
    by_cases h1 : a = b <;> by_cases h2 : c = d <;> simp [h1, h2]
  simp only [totF, rowF, agF, h, List.getD_cons_zero, List.getD_cons_succ, Nat.zero_add, Nat.reduceAdd, Nat.reduceMod]
theorem ag_yes (a b c d : Int) (h : a = b ∧ c = d) : ag1 a b c d = 1 := if_pos h
theorem ag_no (a b c d : Int) (h : ¬ (a = b ∧ c = d)) : ag1 a b c d = 0 := if_neg h
theorem tot_5a (t : Int) : totF [t + 2, t + 1, t + 3] [t, t + 1, t + 2] 3 = 1 := by
  rw [tot_eq]
  repeat first
    | rw [ag_yes _ _ _ _ (by omega)]
    | rw [ag_no _ _ _ _ (by omega)]
theorem tot_5b (t : Int) : totF [t + 1, t + 2, t + 3] [t + 1, t, t + 2] 3 = 1 := by
  rw [tot_eq]
  repeat first
    | rw [ag_yes _ _ _ _ (by omega)]
    | rw [ag_no _ _ _ _ (by omega)]
theorem tot_6 (t : Int) (ht : 0 ≤ t) : totF [0, t + 2, t + 3] [0, t + 1, t + 2] 3 = 1 := by
  rw [tot_eq]
  repeat first
    | rw [ag_yes _ _ _ _ (by omega)]
    | rw [ag_no _ _ _ _ (by omega)]
theorem turn_list (m : Nat) (hm : m < 9) (n : Nat) (hn : n < 256) : primsA (m : Int) (List.replicate n false) false = primsF m (List.replicate n false) false := by
  have he : errF m (List.replicate n false).length = 0 := by rw [List.length_replicate]; unfold errF; rw [if_neg (by omega), if_neg (by omega)]
  unfold primsA
  rw [if_neg (by rw [he]; simp), if_neg (by omega), Int.toNat_natCast]
theorem turn_room (m : Nat) (hm : m = 5 ∨ m = 6) (n i : Nat) (hi : i < countN m n) : i + 3 ≤ n := by
  have h := count_room m n i (by omega) (by omega) hi
  rcases hm with rfl | rfl
  · have e1 : (planOf 5).step = 1 := rfl
    have e2 : (planOf 5).v.length = 3 := rfl
    rw [e1, e2] at h; omega
  · have e1 : (planOf 6).step = 1 := rfl
    have e2 : (planOf 6).v.length = 3 := rfl
    rw [e1, e2] at h; omega
theorem turn_ok (m : Nat) (hm : m = 5 ∨ m = 6) (n : Nat) (hn : n < 256) : TurnOk (primsA (m : Int) (List.replicate n false) false) := by
  have hs := primsA_small m (List.replicate n false) (by rw [List.length_replicate]; omega) false
  rw [turn_list m (by omega) n hn] at hs ⊢
  have hV : ∀ i, i < (primsF m (List.replicate n false) false).length → ((primsF m (List.replicate n false) false).getD i ⟨[], [], 0⟩).V = vertsOf (planOf m) n i ∧ i + 3 ≤ n := fun i hi => by
    rw [primsF_len] at hi
    rw [primsF_get _ _ _ _ hi]
    rw [List.length_replicate] at hi
    exact ⟨by show vertsOf (planOf m) (List.replicate n false).length i = _; rw [List.length_replicate], turn_room m hm n i hi⟩
  refine ⟨hs, fun i hi => ?_, fun i hi => ?_⟩
  · rw [(hV i hi).1, vertsOf_len]
    rcases hm with rfl | rfl <;> rfl
  · obtain ⟨h1, h2⟩ := hV (i + 1) hi
    obtain ⟨h3, h4⟩ := hV i (by omega)
    rw [h1, h3]
    rcases hm with rfl | rfl
    · rw [verts_5 n (i + 1) h2, verts_5 n i h4]
      have e2 : ((i + 1 : Nat) : Int) + 1 = (i : Int) + 2 := by omega
      have e1 : ((i + 1 : Nat) : Int) = (i : Int) + 1 := by omega
      have e3 : ((i + 1 : Nat) : Int) + 2 = (i : Int) + 3 := by omega
      rw [e2, e3, e1]
      rcases Nat.mod_two_eq_zero_or_one i with hp | hp
      · rw [if_pos (by omega), if_neg (by omega)]
        exact tot_5a i
      · rw [if_neg (by omega), if_pos (by omega)]
        exact tot_5b i
    · rw [verts_6 n (i + 1) h2, verts_6 n i h4]
      have e2 : ((i + 1 : Nat) : Int) + 1 = (i : Int) + 2 := by omega
      have e3 : ((i + 1 : Nat) : Int) + 2 = (i : Int) + 3 := by omega
      rw [e2, e3]
      exact tot_6 i (by omega)
theorem turns_any (n : Nat) (hn : n < 256) (fan : Bool) (w : World) : Calls Try.prog 6 #[.int .u8 n, .bool fan] w fun e w' => e = .returned (.bool true) ∧ Below w.heap.size w w' := by
  cases fan with
  | false => exact turns_5 n hn w (turn_ok 5 (.inl rfl) n hn)
  | true => exact turns_6 n hn w (turn_ok 6 (.inr rfl) n hn)
end Go.Proofs.Ytjcomklheilfjaa.Build
