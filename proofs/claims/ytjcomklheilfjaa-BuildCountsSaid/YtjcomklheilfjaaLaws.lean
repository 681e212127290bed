/- Layer 7: the law BuildCounts: its contract. -/
import Derived.Test.YtjcomklheilfjaaCounts
import Derived.Test.YtjcomklheilfjaaTrees
import Derived.Test.YtjcomklheilfjaaSxH2
set_option linter.unusedVariables false
set_option linter.unusedSimpArgs false
namespace Go.Proofs.Ytjcomklheilfjaa.Fns
open Go.RowKit Go.Sx Go.Proofs.Ytjcomklheilfjaa.Trees Go.Proofs.Ytjcomklheilfjaa.Build

def c4 : Contract := CFn sg4 (fun | [.i x, .i c] => True | _ => False) (fun _ => [.b true])
theorem ok4 : ContractOk Try.prog 4 c4 := by
  refine ⟨fun w args => rfl, fun w vs ds ha hp => ?_⟩
  obtain ⟨cvs, rfl, hf⟩ := ha
  have hf : fitAll (readsR w) [.c (.i .i64), .c (.i .i64)] cvs ds := hf
  obtain ⟨l1, l2⟩ := fitAll_len hf
  obtain ⟨v1, v2, rfl⟩ : ∃ a b, cvs = [a, b] := by
    match cvs, l1 with
    | [a, b], _ => exact ⟨a, b, rfl⟩
  obtain ⟨d1, d2, rfl⟩ : ∃ a b, ds = [a, b] := by
    match ds, l2 with
    | [a, b], _ => exact ⟨a, b, rfl⟩
  obtain ⟨h1, h2, _⟩ := hf
  cases d1 with
  | b n => exact h1.elim
  | l n => exact h1.elim
  | i x => cases d2 with
   | b n => exact h2.elim
   | l n => exact h2.elim
   | i c =>
    have h1 : v1 = .int .i64 x := h1
    have h2 : v2 = .int .i64 c := h2
    subst h1; subst h2
    refine (counts_any x c w).mono ?_
    rintro e w' ⟨rfl, hb⟩
    refine ⟨[.bool true], [.b true], rfl, hb, ⟨rfl, trivial⟩, ?_, rfl⟩
    intro i j u v hij hu hv k hk
    match i, j, hu, hv with
    | 0, 0, _, _ => exact absurd rfl hij
theorem pre4 (dvs : List DV) (hh : dvsIn (cts sg4.args) dvs) : c4.pre dvs := by
  simp only [sg4, cts, List.flatMap_cons, List.flatMap_nil, VT.cts, List.append_nil, List.cons_append, List.nil_append] at hh
  match dvs, hh with
  | [.i x, .i c], hh => trivial
end Go.Proofs.Ytjcomklheilfjaa.Fns
