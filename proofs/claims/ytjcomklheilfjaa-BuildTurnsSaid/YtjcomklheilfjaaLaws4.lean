/- Layer 7: the law BuildTurns: its contract. -/
import Derived.Test.YtjcomklheilfjaaTurn2
import Derived.Test.YtjcomklheilfjaaLaws2
set_option linter.unusedVariables false
set_option linter.unusedSimpArgs false
namespace Go.Proofs.Ytjcomklheilfjaa.Fns
open Go.RowKit Go.Sx Go.Proofs.Ytjcomklheilfjaa.Trees Go.Proofs.Ytjcomklheilfjaa.Build

def c6 : Contract := CFn sg6 (fun | [.i m, .b f] => 0 ≤ m ∧ m < 256 | _ => False) (fun _ => [.b true])
theorem ok6 : ContractOk Try.prog 6 c6 := by
  refine ⟨fun w args => rfl, fun w vs ds ha hp => ?_⟩
  obtain ⟨cvs, rfl, hf⟩ := ha
  have hf : fitAll (readsR w) [.c (.i .u8), .c .b] cvs ds := hf
  obtain ⟨l1, l2⟩ := fitAll_len hf
  obtain ⟨v1, v2, rfl⟩ : ∃ a b, cvs = [a, b] := by
    match cvs, l1 with
    | [a, b], _ => exact ⟨a, b, rfl⟩
  obtain ⟨d1, d2, rfl⟩ : ∃ a b, ds = [a, b] := by
    match ds, l2 with
    | [a, b], _ => exact ⟨a, b, rfl⟩
  obtain ⟨h1, h2, _⟩ := hf
  cases d1 with
  | b n => exact h1.elim
  | l n => exact h1.elim
  | i x => cases d2 with
   | l n => exact h2.elim
   | i n => exact h2.elim
   | b f =>
     have h1 : v1 = .int .u8 x := h1
     have h2 : v2 = .bool f := h2
     have hp : 0 ≤ x ∧ x < 256 := hp
     obtain ⟨n, rfl⟩ : ∃ n : Nat, x = n := ⟨x.toNat, by omega⟩
     subst h1; subst h2
     refine (turns_any n (by omega) f w).mono ?_
     rintro e w' ⟨rfl, hb⟩
     refine ⟨[.bool true], [.b true], rfl, hb, ⟨rfl, trivial⟩, ?_, rfl⟩
     intro i j u v hij hu hv k hk
     match i, j, hu, hv with
     | 0, 0, _, _ => exact absurd rfl hij
theorem pre6 (dvs : List DV) (hh : dvsIn (cts sg6.args) dvs) : c6.pre dvs := by
  simp only [sg6, cts, List.flatMap_cons, List.flatMap_nil, VT.cts, List.append_nil, List.cons_append, List.nil_append] at hh
  match dvs, hh with
  | [.i m, .b f], hh =>
    have h1 : (0 : Int) ≤ m ∧ m ≤ 255 := hh.1
    show 0 ≤ m ∧ m < 256
    omega
end Go.Proofs.Ytjcomklheilfjaa.Fns
