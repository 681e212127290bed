/- Layer 7: the law BuildFlags: its contract; arguments that are flags. -/
import Derived.Test.YtjcomklheilfjaaFlags3
import Derived.Test.YtjcomklheilfjaaTrees
import Derived.Test.YtjcomklheilfjaaSxH2
set_option linter.unusedVariables false
set_option linter.unusedSimpArgs false
namespace Go.Proofs.Ytjcomklheilfjaa.Fns
open Go.RowKit Go.Sx Go.Proofs.Ytjcomklheilfjaa.Trees Go.Proofs.Ytjcomklheilfjaa.Build

/-- Flags that are handed in. -/
theorem flags_arg {w : World} {v : Value} {xs : List (List Int)} (h : readsR w 4 [.b] v xs) : ∃ fb fcap, ∃ fs : List Bool, v = .slice fb fs.length fcap ∧ FlagR w fb fs := by
  obtain ⟨_, base, cap, rfl, hle, hnone, hcells⟩ : 0 < [CK.b].length ∧ Reads w v xs.length (flatRows [.b] xs) := h
  have hlen : (xs.map fun r => decide (r.getD 0 0 ≠ 0)).length = xs.length := by simp
  refine ⟨base, cap, xs.map fun r => decide (r.getD 0 0 ≠ 0), by rw [hlen], fun j hj => ?_⟩
  rw [hlen] at hj
  have hg := flatRows_get [.b] xs j 0 hj (by simp)
  simp only [List.length_cons, List.length_nil, Nat.zero_add, Nat.mul_one, Nat.add_zero, List.getElem?_cons_zero, Option.map_some] at hg
  obtain ⟨a', ha, hc⟩ := hcells j _ hg
  refine ⟨a', ha, ?_⟩
  rw [hc]
  have : (xs.map fun r => decide (r.getD 0 0 ≠ 0)).getD j false = decide ((xs.getD j []).getD 0 0 ≠ 0) := by
    simp [List.getD_eq_getElem?_getD, List.getElem?_map]
    rw [List.getElem?_eq_getElem hj]
    rfl
  rw [this]
  rfl
def c7 : Contract := CFn sg7 (fun | [.i m, .l x, .b f] => 0 ≤ m ∧ m < 256 | _ => False) (fun _ => [.b true])
theorem ok7 : ContractOk Try.prog 7 c7 := by
  refine ⟨fun w args => rfl, fun w vs ds ha hp => ?_⟩
  obtain ⟨cvs, rfl, hf⟩ := ha
  have hf : fitAll (readsR w) [.c (.i .u8), .s 4 [.b], .c .b] cvs ds := hf
  obtain ⟨l1, l2⟩ := fitAll_len hf
  obtain ⟨v1, v2, v3, rfl⟩ : ∃ a b c, cvs = [a, b, c] := by
    match cvs, l1 with
    | [a, b, c], _ => exact ⟨a, b, c, rfl⟩
  obtain ⟨d1, d2, d3, rfl⟩ : ∃ a b c, ds = [a, b, c] := by
    match ds, l2 with
    | [a, b, c], _ => exact ⟨a, b, c, rfl⟩
  obtain ⟨h1, h2, h3, _⟩ := hf
  cases d1 with
  | b n => exact h1.elim
  | l n => exact h1.elim
  | i x => cases d2 with
   | b n => exact h2.elim
   | i n => exact h2.elim
   | l xs => cases d3 with
    | i n => exact h3.elim
    | l n => exact h3.elim
    | b f =>
     have h1 : v1 = .int .u8 x := h1
     have h3 : v3 = .bool f := h3
     have hp : 0 ≤ x ∧ x < 256 := hp
     obtain ⟨fb, fcap, fs, rfl, hF⟩ := flags_arg h2
     obtain ⟨n, rfl⟩ : ∃ n : Nat, x = n := ⟨x.toNat, by omega⟩
     subst h1; subst h3
     refine (flags_any n (by omega) fb fcap fs f w hF).mono ?_
     rintro e w' ⟨rfl, hb⟩
     refine ⟨[.bool true], [.b true], rfl, hb, ⟨rfl, trivial⟩, ?_, rfl⟩
     intro i j u v hij hu hv k hk
     match i, j, hu, hv with
     | 0, 0, _, _ => exact absurd rfl hij
theorem pre7 (dvs : List DV) (hh : dvsIn (cts sg7.args) dvs) : c7.pre dvs := by
  simp only [sg7, cts, List.flatMap_cons, List.flatMap_nil, VT.cts, List.append_nil, List.cons_append, List.nil_append] at hh
  match dvs, hh with
  | [.i m, .l x, .b f], hh => 
    have h1 : (0 : Int) ≤ m ∧ m ≤ 255 := hh.1
    show 0 ≤ m ∧ m < 256
    omega
end Go.Proofs.Ytjcomklheilfjaa.Fns
