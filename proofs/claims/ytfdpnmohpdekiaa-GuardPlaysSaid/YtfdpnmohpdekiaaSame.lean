/- Layer 3: same, of two lists that are one. -/
import Derived.Test.YtfdpnmohpdekiaaSxH2
import Derived.Test.YtfdpnmohpdekiaaTrees
import Derived.Test.YtfdpnmohpdekiaaRef
set_option linter.unusedVariables false
set_option linter.unusedSimpArgs false
set_option maxRecDepth 10000
namespace Go.Proofs.Ytfdpnmohpdekiaa.Fns
open Go.RowKit Go.Sx Go.Proofs.Ytfdpnmohpdekiaa.Trees Go.Proofs.Ytfdpnmohpdekiaa.Guard

def c11 : Contract := CFn sg11 (fun | [.l a, .l b] => a = b ∧ a.length ≤ 1000000 | _ => False) (fun _ => [.b true])
theorem ok11 : ContractOk Try.prog 11 c11 := by
  refine contract_of (Γ := knownOf []) known_nil Try.func11 rfl rfl is11 fun ds hk hp => ?_
  split at hp
  · rename_i a b
    obtain ⟨rfl, hlen⟩ := hp
    refine h_ite (fun h => ?_) (fun _ => ?_)
    · have h : (!decide ((a.length : Int) = (a.length : Int))) = true := h
      simp at h
    refine h_loop (fun ds => ∃ i : Nat, ds = [.b false, .i i] ∧ i ≤ a.length) (fun | [_, .i i] => ((a.length : Int) - i).toNat | _ => 0) ⟨0, rfl, by omega⟩ ?_
    intro ds _ ⟨i, hds, hi⟩
    subst hds
    refine h_ite (fun hc => ?_) (fun _ => rfl)
    have hc : decide ((i : Int) < (a.length : Int)) = true := hc
    rw [decide_eq_true_eq] at hc
    refine h_need (decide_eq_true (show (0 : Int) ≤ (i : Int) by omega)) ?_
    refine h_need (decide_eq_true hc) ?_
    refine h_ite (fun h => ?_) (fun _ => ?_)
    · have h : (!decide (cellAt a (i : Int) 0 = cellAt a (i : Int) 0)) = true := h
      simp at h
    refine h_need ?_ (h_again ⟨⟨i + 1, rfl, by omega⟩, ?_⟩)
    · show (decide ((-9223372036854775808 : Int) ≤ (i : Int) + 1) && decide ((i : Int) + 1 ≤ 9223372036854775807)) = true
      rw [Bool.and_eq_true, decide_eq_true_eq, decide_eq_true_eq]
      omega
    · show ((a.length : Int) - ((i : Int) + 1)).toNat < ((a.length : Int) - (i : Int)).toNat
      omega
  · cases hp
theorem flat_ints (xs : List Int) : flatRows [.i .i64] (xs.map fun x => [x]) = ints xs := by
  induction xs with
  | nil => rfl
  | cons x xs ih =>
    show rowCells [.i .i64] 0 [x] ++ flatRows [.i .i64] (xs.map fun x => [x]) = Value.int .i64 x :: ints xs
    rw [ih]; rfl
theorem same_true {w : World} {B B' : Nat} {v u : Value} {xs : List Int} (h1 : w.ownsRow B 3 1 v xs.length (ints xs)) (h2 : w.ownsRow B' 3 1 u xs.length (ints xs)) (hl : xs.length ≤ 1000000) :
    Calls Try.prog 11 #[v, u] w fun e w' => e = .returned (.bool true) ∧ Below w.heap.size w w' := by
  have r1 : readsR w 3 [.i .i64] v (xs.map fun x => [x]) := ⟨by simp, by rw [flat_ints, List.length_map]; exact reads_of_owns h1⟩
  have r2 : readsR w 3 [.i .i64] u (xs.map fun x => [x]) := ⟨by simp, by rw [flat_ints, List.length_map]; exact reads_of_owns h2⟩
  have hc := ok11.2 w [v, u] [.l (xs.map fun x => [x]), .l (xs.map fun x => [x])] ⟨[v, u], rfl, r1, r2, trivial⟩ (show _ ∧ _ from ⟨rfl, by rw [List.length_map]; exact hl⟩)
  refine hc.mono ?_
  rintro e w' ⟨cvs, rds, rfl, hb, hf, _, hrel⟩
  have hrel : rds = [.b true] := hrel
  subst hrel
  have hf : fitAll (ownsR w' w.heap.size) [.c .b] cvs [.b true] := hf
  obtain ⟨l1, _⟩ := fitAll_len hf
  obtain ⟨c, rfl⟩ : ∃ c, cvs = [c] := by
    match cvs, l1 with
    | [c], _ => exact ⟨c, rfl⟩
  have : c = .bool true := hf.1
  subst this
  exact ⟨rfl, hb⟩
end Go.Proofs.Ytfdpnmohpdekiaa.Fns
