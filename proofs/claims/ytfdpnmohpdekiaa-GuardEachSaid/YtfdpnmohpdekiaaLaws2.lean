/- Layer 3: the law GuardEach: its contract. -/
import Derived.Test.YtfdpnmohpdekiaaEach2
import Derived.Test.YtfdpnmohpdekiaaTrees
import Derived.Test.YtfdpnmohpdekiaaSxH2
set_option linter.unusedVariables false
set_option linter.unusedSimpArgs false
namespace Go.Proofs.Ytfdpnmohpdekiaa.Fns
open Go.RowKit Go.Sx Go.Proofs.Ytfdpnmohpdekiaa.Trees Go.Proofs.Ytfdpnmohpdekiaa.Guard

def c5 : Contract := CFn sg5 (fun | [.l x, .i c] => True | _ => False) (fun _ => [.b true])
theorem ok5 : ContractOk Try.prog 5 c5 := by
  refine ⟨fun w args => rfl, fun w vs ds ha hp => ?_⟩
  obtain ⟨cvs, rfl, hf⟩ := ha
  have hf : fitAll (readsR w) [.s 3 [.i .i64], .c (.i .i64)] cvs ds := hf
  obtain ⟨l1, l2⟩ := fitAll_len hf
  obtain ⟨v1, v2, rfl⟩ : ∃ a b, cvs = [a, b] := by
    match cvs, l1 with
    | [a, b], _ => exact ⟨a, b, rfl⟩
  obtain ⟨d1, d2, rfl⟩ : ∃ a b, ds = [a, b] := by
    match ds, l2 with
    | [a, b], _ => exact ⟨a, b, rfl⟩
  obtain ⟨h1, h2, _⟩ := hf
  cases d1 with
  | i n => exact h1.elim
  | b n => exact h1.elim
  | l xs => cases d2 with
   | b n => exact h2.elim
   | l n => exact h2.elim
   | i c =>
    have h2 : v2 = .int .i64 c := h2
    subst h2
    obtain ⟨_, base, cap, rfl, hle, hnone, hcells⟩ : 0 < [CK.i .i64].length ∧ Reads w v1 xs.length (flatRows [.i .i64] xs) := h1
    have hc : Calls Try.prog 5 #[.slice base xs.length cap, .int .i64 c] w fun e w' => e = .returned (.bool true) ∧ Below w.heap.size w w' := by
      rcases Nat.eq_zero_or_pos xs.length with h0 | h0
      · rw [h0]; exact guardEach_nil base cap c w
      · rcases Nat.lt_or_ge 60 xs.length with h6 | h6
        · exact guardEach_long base xs.length cap c w h6
        · cases base with
          | none => have := (hnone rfl).1; omega
          | some a =>
            have hlen : (xs.map fun r => r.getD 0 0).length = xs.length := by simp
            have key := guardEach_some a cap (xs.map fun r => r.getD 0 0) c w (by omega) (by omega) (fun j hj => by
              rw [hlen] at hj
              have hg := flatRows_get [.i .i64] xs j 0 hj (by simp)
              simp only [List.length_cons, List.length_nil, Nat.zero_add, Nat.mul_one, Nat.add_zero, List.getElem?_cons_zero, Option.map_some] at hg
              obtain ⟨a', ha, hc⟩ := hcells j _ hg
              cases ha
              rw [hc]
              have : (xs.map fun r => r.getD 0 0).getD j 0 = (xs.getD j []).getD 0 0 := by
                simp [List.getD_eq_getElem?_getD, List.getElem?_map]
                rw [List.getElem?_eq_getElem hj]
                rfl
              rw [this]
              rfl)
            rw [hlen] at key
            exact key
    refine hc.mono ?_
    rintro e w' ⟨rfl, hb⟩
    refine ⟨[.bool true], [.b true], rfl, hb, ⟨rfl, trivial⟩, ?_, rfl⟩
    intro i j u v hij hu hv k hk
    match i, j, hu, hv with
    | 0, 0, _, _ => exact absurd rfl hij
theorem pre5 (dvs : List DV) (hh : dvsIn (cts sg5.args) dvs) : c5.pre dvs := by
  simp only [sg5, cts, List.flatMap_cons, List.flatMap_nil, VT.cts, List.append_nil, List.cons_append, List.nil_append] at hh
  match dvs, hh with
  | [.l x, .i c], hh => trivial
end Go.Proofs.Ytfdpnmohpdekiaa.Fns
