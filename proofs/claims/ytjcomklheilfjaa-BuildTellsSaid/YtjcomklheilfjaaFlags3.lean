/- Layer 7: the law BuildFlags: plain, and its contract. -/
import Derived.Test.YtjcomklheilfjaaFlags2
set_option linter.unusedVariables false
set_option linter.unusedSimpArgs false
namespace Go.Proofs.Ytjcomklheilfjaa.Build
open Go.RowKit Go

theorem plan_facts (m : Nat) (hm : m < 9) : (m < 4 → (planOf m).v.length < 3) ∧ (4 ≤ m → 3 ≤ (planOf m).v.length) ∧ (planOf m).v.length ≤ 4 ∧ (planOf m).flagged = !(m != 4 && m != 7 && m != 9) := by
  match m, hm with
  | 0, _ | 1, _ | 2, _ | 3, _ | 4, _ | 5, _ | 6, _ | 7, _ | 8, _ => decide
theorem vertF_bd (m n i k : Nat) (hn : 1 ≤ n) : ∃ r : Nat, vertF (planOf m) n i k = (r : Int) ∧ r < n := by
  unfold vertF
  by_cases h : (planOf m).anchored = true ∧ k = 0
  · rw [if_pos h]; exact ⟨0, rfl, hn⟩
  · rw [if_neg h]
    have h1 := Int.emod_nonneg ((planOf m).step * (i : Int) + (addOf (planOf m) i).getD k 0) (show (n : Int) ≠ 0 by omega)
    have h2 := Int.emod_lt_of_pos ((planOf m).step * (i : Int) + (addOf (planOf m) i).getD k 0) (show (0 : Int) < n by omega)
    exact ⟨(((planOf m).step * (i : Int) + (addOf (planOf m) i).getD k 0) % (n : Int)).toNat, by omega, by omega⟩
theorem vertsOf_len (m n i : Nat) : (vertsOf (planOf m) n i).length = (planOf m).v.length := by
  unfold vertsOf
  rw [List.length_map, List.length_range, (addOf_bd m i).1]
theorem vertsOf_get (m n i k : Nat) (hk : k < (planOf m).v.length) : (vertsOf (planOf m) n i).getD k 0 = vertF (planOf m) n i k := by
  unfold vertsOf
  rw [← (addOf_bd m i).1] at hk
  simp [List.getD_eq_getElem?_getD, hk]
theorem sidesF_get (V : List Int) (fs : List Bool) (fl : Bool) (k : Nat) (h3 : 3 ≤ V.length) (hk : k < V.length) : (sidesF V fs fl).getD k false = sideF V fs fl k := by
  unfold sidesF
  rw [if_neg (by omega)]
  simp [List.getD_eq_getElem?_getD, hk]
theorem sidesF_len (V : List Int) (fs : List Bool) (fl : Bool) (h3 : 3 ≤ V.length) : (sidesF V fs fl).length = V.length := by
  unfold sidesF
  rw [if_neg (by omega)]; simp
theorem flag_ok (m : Nat) (hm : m < 10) (fs : List Bool) (hl : fs.length ≤ 100) (first : Bool) (p : PrimD) (hp : p ∈ primsA (m : Int) fs first) : FlagOk m fs p := by
  have he : errF m fs.length = 0 := by unfold errF; rw [if_neg (by omega), if_neg (by omega)]
  unfold primsA at hp
  rw [if_neg (by rw [he]; simp)] at hp
  by_cases h9 : m = 9
  · subst h9
    rw [if_pos (by decide)] at hp
    unfold wholeF at hp
    by_cases h3 : fs.length < 3
    · rw [if_pos h3] at hp; simp at hp
    · rw [if_neg h3] at hp
      obtain rfl : p = ⟨allV fs.length, sidesF (allV fs.length) fs true, 0⟩ := by simpa using hp
      have hE : (sidesF (allV fs.length) fs true).length = fs.length := by rw [sidesF_len _ _ _ (by rw [allV_len]; omega), allV_len]
      refine ⟨fun h => by omega, fun _ => by show (sidesF _ _ _).length = (allV _).length; rw [hE, allV_len], by show (allV _).length ≤ 256; rw [allV_len]; omega, fun k hk => ?_⟩
      have hk : k < (sidesF (allV fs.length) fs true).length := hk
      rw [hE] at hk
      refine ⟨k, allV_get _ _ hk, hk, ?_⟩
      show (sidesF (allV fs.length) fs true).getD k false = _
      rw [sidesF_get _ _ _ _ (by rw [allV_len]; omega) (by rw [allV_len]; exact hk)]
      unfold sideF
      rw [allV_get _ _ hk]
      simp
  · rw [if_neg (by omega)] at hp
    unfold primsF at hp
    rw [Int.toNat_natCast] at hp
    obtain ⟨i, hi, rfl⟩ := List.mem_map.1 hp
    have hi : i < countN m fs.length := by simpa using hi
    have hn : 1 ≤ fs.length := by
      have h := countF_bd m fs.length (by omega)
      refine h.2.2 ?_
      unfold countN at hi
      omega
    obtain ⟨f1, f2, f3, f4⟩ := plan_facts m (by omega)
    have hV : (primF (planOf m) fs first i).V = vertsOf (planOf m) fs.length i := rfl
    have hE : (primF (planOf m) fs first i).E = sidesF (vertsOf (planOf m) fs.length i) fs (planOf m).flagged := rfl
    have hlen := vertsOf_len m fs.length i
    refine ⟨fun h => ?_, fun h => ?_, ?_, fun k hk => ?_⟩
    · rw [hE]; unfold sidesF; rw [if_pos (by rw [hlen]; exact f1 h)]
    · rw [hE, hV, sidesF_len _ _ _ (by rw [hlen]; exact f2 h)]
    · rw [hV, hlen]; omega
    · rw [hE] at hk
      have h3 : 3 ≤ (planOf m).v.length := by
        rcases Nat.lt_or_ge m 4 with h | h
        · have := f1 h
          unfold sidesF at hk
          rw [if_pos (by rw [hlen]; exact this)] at hk
          simp at hk
        · exact f2 h
      rw [sidesF_len _ _ _ (by rw [hlen]; exact h3), hlen] at hk
      obtain ⟨r, hr, hrl⟩ := vertF_bd m fs.length i k hn
      refine ⟨r, by rw [hV, vertsOf_get _ _ _ _ hk, hr], hrl, ?_⟩
      rw [hE, sidesF_get _ _ _ _ (by rw [hlen]; exact h3) (by rw [hlen]; exact hk)]
      unfold sideF
      rw [vertsOf_get _ _ _ _ hk, hr, f4]
      simp
theorem primsA_small (m : Nat) (fs : List Bool) (hl : fs.length ≤ 256) (first : Bool) : (primsA (m : Int) fs first).length ≤ 256 := by
  unfold primsA
  split
  · simp
  · split
    · unfold wholeF; split <;> simp
    · unfold primsF
      rw [List.length_map, List.length_range]
      have := (countF_bd m fs.length hl).2.1
      unfold countN
      rw [Int.toNat_natCast]
      omega
theorem flags_short (n8 : Nat) (hn8 : n8 < 256) (fb : Option Addr) (fcap : Nat) (fs : List Bool) (first : Bool) (w : World) (hl : fs.length ≤ 100) (hF : FlagR w fb fs) :
    Calls Try.prog 7 #[.int .u8 n8, .slice fb fs.length fcap, .bool first] w fun e w' => e = .returned (.bool true) ∧ Below w.heap.size w w' := by
  have hok : ∀ p ∈ primsA ((n8 % 10 : Nat) : Int) fs first, FlagOk (n8 % 10) fs p := fun p hp => flag_ok (n8 % 10) (by omega) fs hl first p hp
  have hlen : (primsA ((n8 % 10 : Nat) : Int) fs first).length ≤ 1000 := by have := primsA_small (n8 % 10) fs (by omega) first; omega
  by_cases h4 : n8 % 10 = 4
  · rw [h4] at hok hlen
    exact flags_4 n8 hn8 fb fcap fs first w hl h4 hF hok hlen
  by_cases h7 : n8 % 10 = 7
  · rw [h7] at hok hlen
    exact flags_7 n8 hn8 fb fcap fs first w hl h7 hF hok hlen
  by_cases h9 : n8 % 10 = 9
  · rw [h9] at hok hlen
    exact flags_9 n8 hn8 fb fcap fs first w hl h9 hF hok hlen
  exact flags_gen n8 hn8 fb fcap fs first w hl ⟨h4, h7, h9⟩ hF hok hlen
theorem flags_any (n8 : Nat) (hn8 : n8 < 256) (fb : Option Addr) (fcap : Nat) (fs : List Bool) (first : Bool) (w : World) (hF : FlagR w fb fs) :
    Calls Try.prog 7 #[.int .u8 n8, .slice fb fs.length fcap, .bool first] w fun e w' => e = .returned (.bool true) ∧ Below w.heap.size w w' := by
  rcases Nat.lt_or_ge 100 fs.length with h | h
  · exact flags_long n8 fb fs.length fcap first w h
  · exact flags_short n8 hn8 fb fcap fs first w h hF
end Go.Proofs.Ytjcomklheilfjaa.Build
