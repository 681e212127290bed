/- Layer 3: the law GuardPlays: its contract; a law's row where the call asks that no slice is longer than its room. -/
import Derived.Test.YtfdpnmohpdekiaaPlays3
import Derived.Test.YtfdpnmohpdekiaaTrees
import Derived.Test.YtfdpnmohpdekiaaSxH2
set_option linter.unusedVariables false
set_option linter.unusedSimpArgs false
namespace Go.Sx
open Go.RowKit Go.ChangeShapes Go.WideShapes Go.ChangeAt

/-- No slice is longer than its room. -/
def capOk : Value → Prop
  | .slice _ n cap => n ≤ cap
  | _ => True
theorem cap_of_ok {P : Program} {w : World} {r} {b : Nat} {t : TypeId} {v : Value} (h : Value.okWide P w r b t v) : capOk v := by
  cases v with
  | slice a n cap =>
    show n ≤ cap
    unfold Value.okWide at h
    split at h
    · obtain ⟨cs, hcs, _⟩ := h; cases hcs
    · obtain ⟨cs, hcs, _⟩ := h; cases hcs
    · unfold Cell.okWide at h
      split at h <;> first
        | (rename_i hv; cases hv)
        | skip
      all_goals
        unfold Cell.ok at h
        split at h <;> simp_all
  | _ => trivial
variable {H : Type} {enc : TypeId × Value → H} {P : Program}
theorem trod_len {W : World} {b : Nat} {spare : Nat → Bool} {held : Bool} : ∀ {ts : List TypeId} {vs : List Value} {ds : List (DataW H)} {ps : List MemPlace}, DataW.TrodAll enc P W b spare held ts vs ds ps → vs.length = ts.length := by
  intro ts
  induction ts with
  | nil => intro vs ds ps h; obtain ⟨rfl, _, _⟩ := trodAll_nil h; rfl
  | cons t ts ih => intro vs ds ps h; obtain ⟨_, _, _, _, _, _, rfl, _, _, _, h2⟩ := trodAll_cons h; simp [ih h2]
theorem law_cap {b0 : Nat} {B : DataW H → Nat} (hB : ∀ es sp, List.length es ≤ B (.slice es sp)) (hB2 : ∀ d parts, d ∈ parts → B d ≤ B (.agg parts)) {f : FuncId} {fn : Func} {s : ChangeSpec} {sg : Sig} {tb : TypeId} {W : World} {args : Array Value} {ds gs : List (DataW H)} {before : List MemPlace}
    (hOk : ∀ w vs ds, ArgsOk w sg.args vs ds → (∀ v ∈ vs, capOk v) → Calls P f vs.toArray w (fun e w' => e = .returned (.bool true) ∧ Below w.heap.size w w')) (hvt : vtsOk P fn.params.toList sg.args = true) (hl : laidOutB P = true) (hr : (fn.params.toList.all fun t => P.readableRec t && decide (t < P.types.size)) = true)
    (hrt : fn.resultTypes = #[tb]) (htb : P.underlying tb = some .bool) (hvars : s.vars = [])
    (hs : ∀ ds : List (DataW H), ds.length = fn.params.toList.length → s.fn H ds = { results := [.lit (.bool true)], args := ds })
    (hval : ∀ (j : Nat) t v, fn.params[j]? = some t → args[j]? = some v → Value.okWide P W .any b0 t v) (hW : DataW.Whole enc P fn.params.toList s.vars false W args.toList ds gs before) :
    Calls P f args W fun e W' => ∃ v, e = .returned v ∧ s.post enc P fn false true false false W args v W' := by
  have hW' := hW
  obtain ⟨p, q, hA, hV, rfl, hfz, hnd⟩ := hW
  rw [hvars] at hV
  obtain ⟨rfl, rfl⟩ := trodVars_none hV
  obtain ⟨cvs, dvs, h1, h2, h3⟩ := open_args hB hB2 hvt (fun j t v a b => hval j t v (by simpa using a) (by simpa using b)) hA
  have hcaps : ∀ v ∈ args.toList, capOk v := fun v hv => by
    obtain ⟨j, hj, e⟩ := List.mem_iff_getElem.1 hv
    have hlen := trod_len hA
    have hj2 : j < fn.params.toList.length := by omega
    exact cap_of_ok (hval j fn.params.toList[j] v (by simp at hj2 ⊢) (by simp at hj; simp [hj]; simpa using e))
  have hcall := hOk W args.toList dvs ⟨cvs, h2, cells3_fit h1⟩ hcaps
  rw [Array.toArray_toList] at hcall
  refine Calls.mono hcall fun e W' he => ?_
  obtain ⟨rfl, hb⟩ := he
  have hlt : ∀ x ∈ p, x.block < W.heap.size := fun x hx => by simpa using hW'.lt x (by simpa using hx)
  have hlend : (ds ++ []).length = fn.params.toList.length := by
    have : ∀ {ts : List TypeId} {vs : List Value} {ds : List (DataW H)} {ps : List MemPlace}, DataW.TrodAll enc P W 0 (fun _ => true) true ts vs ds ps → ds.length = ts.length := by
      intro ts
      induction ts with
      | nil => intro vs ds ps h; obtain ⟨_, rfl, _⟩ := trodAll_nil h; rfl
      | cons t ts ih => intro vs ds ps h; obtain ⟨_, _, _, _, _, _, _, rfl, _, _, h2⟩ := trodAll_cons h; simp [ih h2]
    simpa using this hA
  refine ⟨_, rfl, ds, [], p, [], p, [], by simpa using hW', ?_, ?_, ?_, Below.frame hb _, fun h => by cases h⟩
  · rw [hs _ hlend, hrt]
    show DataW.TrodAll enc P W' W.heap.size (fun _ => false) false [tb] [.bool true] [.lit (.bool true)] []
    exact trodAll_mk1 ⟨1, by simp [DataW.trod, Value.cells, htb]⟩
  · rw [hs _ hlend, List.append_nil]
    exact args_stay hl hb hr hA hlt
  · rw [hs _ hlend, hvars]
    rfl
end Go.Sx
namespace Go.Proofs.Ytfdpnmohpdekiaa.Fns
open Go.RowKit Go.Sx Go.Proofs.Ytfdpnmohpdekiaa.Trees Go.Proofs.Ytfdpnmohpdekiaa.Guard

theorem acts_of {w : World} {a : Addr} {xs : List (List Int)} (h : ∀ j u, (flatRows [.i .i64, .i .i64, .i .i64] xs)[j]? = some u → ∃ b, some a = some b ∧ w.cell? (b.add j) = some u) : ActCells w a xs := fun i hi c hc => by
  have hg := flatRows_get [.i .i64, .i .i64, .i .i64] xs i c hi (by simpa using hc)
  have hk : ([CK.i .i64, .i .i64, .i .i64][c]?) = some (.i .i64) := by
    match c, hc with
    | 0, _ => rfl
    | 1, _ => rfl
    | 2, _ => rfl
  rw [hk] at hg
  obtain ⟨b, hb, hcell⟩ := h _ _ hg
  cases hb
  exact hcell
theorem ok3 : ∀ w vs ds, ArgsOk w sg3.args vs ds → (∀ v ∈ vs, capOk v) → Calls Try.prog 3 vs.toArray w (fun e w' => e = .returned (.bool true) ∧ Below w.heap.size w w') := by
  intro w vs ds ha hcap
  obtain ⟨cvs, rfl, hf⟩ := ha
  have hf : fitAll (readsR w) [.s 43 [.i .i64, .i .i64, .i .i64]] cvs ds := hf
  obtain ⟨l1, l2⟩ := fitAll_len hf
  obtain ⟨v1, rfl⟩ : ∃ a, cvs = [a] := by
    match cvs, l1 with
    | [a], _ => exact ⟨a, rfl⟩
  obtain ⟨d1, rfl⟩ : ∃ a, ds = [a] := by
    match ds, l2 with
    | [a], _ => exact ⟨a, rfl⟩
  obtain ⟨h1, _⟩ := hf
  cases d1 with
  | i n => exact h1.elim
  | b n => exact h1.elim
  | l xs =>
    obtain ⟨_, base, cap, rfl, hle, hnone, hcells⟩ : 0 < [CK.i .i64, .i .i64, .i .i64].length ∧ Reads w v1 xs.length (flatRows [.i .i64, .i .i64, .i .i64] xs) := h1
    have hcp : xs.length ≤ cap := hcap (.slice base xs.length cap) (List.mem_cons_self ..)
    show Calls Try.prog 3 #[.slice base xs.length cap] w _
    rcases Nat.lt_or_ge 60 xs.length with h6 | h6
    · exact guardPlays_long base xs.length cap w h6
    · refine guardPlays_any base cap xs w hcp h6 (fun h0 => ?_)
      cases base with
      | none => have := (hnone rfl).1; omega
      | some a => exact ⟨a, rfl, acts_of hcells⟩
end Go.Proofs.Ytfdpnmohpdekiaa.Fns
