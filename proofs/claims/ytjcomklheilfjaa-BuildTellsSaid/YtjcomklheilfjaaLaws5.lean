/- Layer 7: the law BuildTells: its contract. -/
import Derived.Test.YtjcomklheilfjaaTells
import Derived.Test.YtjcomklheilfjaaLaws2
set_option linter.unusedVariables false
set_option linter.unusedSimpArgs false
namespace Go.Proofs.Ytjcomklheilfjaa.Fns
open Go.RowKit Go.Sx Go.Proofs.Ytjcomklheilfjaa.Trees Go.Proofs.Ytjcomklheilfjaa.Build

def c3 : Contract := CFn sg3 (fun | [.i m, .l x, .b f] => True | _ => False) (fun _ => [.b true])
theorem ok3 : ContractOk Try.prog 3 c3 := by
  refine ⟨fun w args => rfl, fun w vs ds ha hp => ?_⟩
  obtain ⟨cvs, rfl, hf⟩ := ha
  have hf : fitAll (readsR w) [.c (.i .i64), .s 4 [.b], .c .b] cvs ds := hf
  obtain ⟨l1, l2⟩ := fitAll_len hf
  obtain ⟨v1, v2, v3, rfl⟩ : ∃ a b c, cvs = [a, b, c] := by
    match cvs, l1 with
    | [a, b, c], _ => exact ⟨a, b, c, rfl⟩
  obtain ⟨d1, d2, d3, rfl⟩ : ∃ a b c, ds = [a, b, c] := by
    match ds, l2 with
    | [a, b, c], _ => exact ⟨a, b, c, rfl⟩
  obtain ⟨h1, h2, h3, _⟩ := hf
  cases d1 with
  | b n => exact h1.elim
  | l n => exact h1.elim
  | i x => cases d2 with
   | b n => exact h2.elim
   | i n => exact h2.elim
   | l xs => cases d3 with
    | i n => exact h3.elim
    | l n => exact h3.elim
    | b f =>
     have h1 : v1 = .int .i64 x := h1
     have h3 : v3 = .bool f := h3
     obtain ⟨fb, fcap, fs, rfl, hF⟩ := flags_arg h2
     subst h1; subst h3
     refine (tells_any x fb fcap fs f w hF).mono ?_
     rintro e w' ⟨rfl, hb⟩
     refine ⟨[.bool true], [.b true], rfl, hb, ⟨rfl, trivial⟩, ?_, rfl⟩
     intro i j u v hij hu hv k hk
     match i, j, hu, hv with
     | 0, 0, _, _ => exact absurd rfl hij
theorem pre3 (dvs : List DV) (hh : dvsIn (cts sg3.args) dvs) : c3.pre dvs := by
  simp only [sg3, cts, List.flatMap_cons, List.flatMap_nil, VT.cts, List.append_nil, List.cons_append, List.nil_append] at hh
  match dvs, hh with
  | [.i m, .l x, .b f], hh => trivial
end Go.Proofs.Ytjcomklheilfjaa.Fns
