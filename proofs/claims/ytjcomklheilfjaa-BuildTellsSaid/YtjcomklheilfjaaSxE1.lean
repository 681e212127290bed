/- The symbolic executor: what a call takes and gives. -/
import Derived.Test.YtjcomklheilfjaaSxD5
import Derived.Calls
set_option linter.unusedVariables false
set_option linter.unusedSimpArgs false
namespace Go.Sx
open Go.RowKit

variable {env env' : Env} {ph ph' : Ph} {P : Program}

/-! ### Names that are given in a row -/
theorem Env.sets_lt : ∀ {ds : List DV} {env : Env} {k j : Nat}, j < k → env.sets k ds j = env j := by
  intro ds
  induction ds with
  | nil => intro env k j _; rfl
  | cons d ds ih =>
    intro env k j h
    rw [Env.sets, ih (by omega), Env.set, if_neg (by omega)]
theorem Env.sets_in : ∀ {ds : List DV} {env : Env} {k i : Nat} {d : DV}, ds[i]? = some d → env.sets k ds (k + i) = d := by
  intro ds
  induction ds with
  | nil => intro env k i d h; simp at h
  | cons x ds ih =>
    intro env k i d h
    cases i with
    | zero =>
      simp only [List.getElem?_cons_zero, Option.some.injEq] at h
      subst h
      rw [Env.sets, Nat.add_zero, Env.sets_lt (by omega)]; simp [Env.set]
    | succ i =>
      rw [List.getElem?_cons_succ] at h
      have := ih (env := env.set k x) (k := k + 1) h
      rw [Env.sets, show k + (i + 1) = k + 1 + i by omega]
      exact this
theorem Env.sets_ge : ∀ {ds : List DV} {env : Env} {k j : Nat}, k + ds.length ≤ j → env.sets k ds j = env j := by
  intro ds
  induction ds with
  | nil => intro env k j _; rfl
  | cons d ds ih =>
    intro env k j h
    simp only [List.length_cons] at h
    rw [Env.sets, ih (by omega), Env.set, if_neg (by omega)]

/-! ### Cells with their data -/
abbrev SliceRel := TypeId → List CK → Value → List (List Int) → Prop
def fit1 (R : SliceRel) : CT → Value → DV → Prop
  | .c (.i k), v, .i n => v = .int k n
  | .c .b, v, .b b => v = .bool b
  | .s e ks, v, .l xs => R e ks v xs
  | _, _, _ => False
def fitAll (R : SliceRel) : List CT → List Value → List DV → Prop
  | [], [], [] => True
  | c :: cs, v :: vs, d :: ds => fit1 R c v d ∧ fitAll R cs vs ds
  | _, _, _ => False
/-- The pointer to a slice's first element. -/
def ptrOf : Value → Value
  | .slice base _ _ => .pointer base
  | _ => undef
def mkVals : List VT → List Value → List Value
  | [], _ => []
  | .one _ :: ts, cs => cs.headD undef :: mkVals ts cs.tail
  | .agg ks :: ts, cs => .agg (cs.take ks.length).toArray :: mkVals ts (cs.drop ks.length)
  | .ptr _ _ :: ts, cs => ptrOf (cs.headD undef) :: mkVals ts cs.tail
  | .fn g ks :: ts, cs => .func (.func g) #[] ((cs.take ks.length).map ptrOf).toArray :: mkVals ts (cs.drop ks.length)
def readsR (w : World) : SliceRel := fun _ ks v xs => 0 < ks.length ∧ Reads w v xs.length (flatRows ks xs)
def ownsR (w : World) (B : Nat) : SliceRel := fun e ks v xs => 0 < ks.length ∧ w.ownsRow B e ks.length v xs.length (flatRows ks xs)
def apartVals (cvs : List Value) : Prop := ∀ (i j : Nat) (u v : Value), i ≠ j → cvs[i]? = some u → cvs[j]? = some v → ∀ k, u.ownBlock = some k → v.ownBlock ≠ some k
def packed : List Value → Value
  | [v] => v
  | vs => .tuple vs.toArray
def ArgsOk (w : World) (args : List VT) (vs : List Value) (ds : List DV) : Prop := ∃ cvs, vs = mkVals args cvs ∧ fitAll (readsR w) (cts args) cvs ds

/-- What a function does. -/
def ContractOk (P : Program) (f : FuncId) (c : Contract) : Prop :=
  (∀ w args, (callFunc f args).run P w = .ok (.enter f args) w) ∧
  ∀ w vs ds, ArgsOk w c.sig.args vs ds → c.pre ds → Calls P f vs.toArray w (fun e w' => ∃ cvs rds, e = .returned (packed (mkVals c.sig.res cvs)) ∧ Below w.heap.size w w' ∧
    fitAll (ownsR w' w.heap.size) (cts c.sig.res) cvs rds ∧ apartVals cvs ∧ c.rel ds rds)

theorem fitAll_append {R : SliceRel} : ∀ {cs cs' : List CT} {vs vs' : List Value} {ds ds' : List DV}, fitAll R cs vs ds → fitAll R cs' vs' ds' → fitAll R (cs ++ cs') (vs ++ vs') (ds ++ ds') := by
  intro cs
  induction cs with
  | nil => intro cs' vs vs' ds ds' h h'; cases vs <;> cases ds <;> simp_all [fitAll]
  | cons c cs ih =>
    intro cs' vs vs' ds ds' h h'
    cases vs with
    | nil => simp [fitAll] at h
    | cons v vs => cases ds with
      | nil => simp [fitAll] at h
      | cons d ds => exact ⟨h.1, ih h.2 h'⟩
theorem fitAll_len {R : SliceRel} : ∀ {cs : List CT} {vs : List Value} {ds : List DV}, fitAll R cs vs ds → vs.length = cs.length ∧ ds.length = cs.length := by
  intro cs
  induction cs with
  | nil => intro vs ds h; cases vs <;> cases ds <;> simp_all [fitAll]
  | cons c cs ih =>
    intro vs ds h
    cases vs with
    | nil => simp [fitAll] at h
    | cons v vs => cases ds with
      | nil => simp [fitAll] at h
      | cons d ds => simp [ih h.2]
theorem fitAll_get {R : SliceRel} : ∀ {cs : List CT} {vs : List Value} {ds : List DV} {i : Nat} {c : CT}, fitAll R cs vs ds → cs[i]? = some c → ∃ v d, vs[i]? = some v ∧ ds[i]? = some d ∧ fit1 R c v d := by
  intro cs
  induction cs with
  | nil => intro vs ds i c _ h; simp at h
  | cons c cs ih =>
    intro vs ds i c' h hi
    cases vs with
    | nil => simp [fitAll] at h
    | cons v vs => cases ds with
      | nil => simp [fitAll] at h
      | cons d ds =>
        cases i with
        | zero => simp at hi; subst hi; exact ⟨v, d, rfl, rfl, h.1⟩
        | succ i => simpa using ih h.2 (by simpa using hi)
theorem fitAll_kinds {R : SliceRel} : ∀ {cs : List CT} {vs : List Value} {ds : List DV}, fitAll R cs vs ds → kinds cs ds = true := by
  intro cs
  induction cs with
  | nil => intro vs ds h; cases vs <;> cases ds <;> simp_all [fitAll, kinds]
  | cons c cs ih =>
    intro vs ds h
    cases vs with
    | nil => simp [fitAll] at h
    | cons v vs => cases ds with
      | nil => simp [fitAll] at h
      | cons d ds =>
        simp only [kinds, ih h.2, Bool.and_true]
        have := h.1
        cases c with
        | c k => cases k <;> cases d <;> simp_all [fit1, DV.kind]
        | s e ks => cases d <;> simp_all [fit1, DV.kind]

/-! ### What stands for a call's results, for a function's arguments -/
theorem freshLeaves_append (G : BE) : ∀ (cs cs' : List CT) (id : Nat), freshLeaves G id (cs ++ cs') = ((freshLeaves G id cs).1 ++ (freshLeaves G (id + cs.length) cs').1, (freshLeaves G id cs).2 ++ (freshLeaves G (id + cs.length) cs').2) := by
  intro cs
  induction cs with
  | nil => intro cs' id; simp [freshLeaves]
  | cons c cs ih =>
    intro cs' id
    simp only [List.cons_append, freshLeaves, ih, List.length_cons, List.append_assoc]
    rw [show id + 1 + cs.length = id + (cs.length + 1) by omega]

theorem freshLeaves_len (G : BE) : ∀ (cs : List CT) (id : Nat), (freshLeaves G id cs).1.length = cs.length := by
  intro cs
  induction cs with
  | nil => intro id; rfl
  | cons c cs ih => intro id; simp [freshLeaves, ih]

theorem freshCaps_rows (G : BE) : ∀ (cs : List (TypeId × IntKind)) (id : Nat), (freshCaps G id cs).2 = (freshLeaves G id (cs.map fun c => CT.s c.1 [.i c.2])).2 := by
  intro cs
  induction cs with
  | nil => intro id; rfl
  | cons c cs ih => intro id; simp [freshCaps, freshLeaves, freshLeaf, ih]
theorem freshCaps_den (G : BE) : ∀ (cs : List (TypeId × IntKind)) (id : Nat), (freshCaps G id cs).1.map (capDen ph) = ((freshLeaves G id (cs.map fun c => CT.s c.1 [.i c.2])).1.map (Leaf.den env ph)).map ptrOf := by
  intro cs
  induction cs with
  | nil => intro id; rfl
  | cons c cs ih => intro id; simp [freshCaps, freshLeaves, freshLeaf, ih (id + 1), capDen, Leaf.den, Ph.val, ptrOf]
theorem freshCaps_all {q : Nat → Bool} (G : BE) : ∀ (cs : List (TypeId × IntKind)) (id : Nat), (∀ i, i < cs.length → q (id + i) = true) → ((freshCaps G id cs).1.all fun c => q c.2) = true := by
  intro cs
  induction cs with
  | nil => intro id _; rfl
  | cons c cs ih =>
    intro id h
    have h0 : q id = true := by have := h 0 (by simp); simpa using this
    simp only [freshCaps, List.all_cons, h0, Bool.true_and]
    exact ih (id + 1) fun i hi => by rw [show id + 1 + i = id + (i + 1) by omega]; exact h (i + 1) (by simpa using hi)

theorem freshV1s_rows (G : BE) : ∀ (ts : List VT) (id : Nat), (freshV1s G id ts).2 = (freshLeaves G id (cts ts)).2 := by
  intro ts
  induction ts with
  | nil => intro id; rfl
  | cons t ts ih =>
    intro id
    have e : cts (t :: ts) = t.cts ++ cts ts := by simp [cts]
    rw [e, freshLeaves_append]
    simp only [freshV1s, ih]
    congr 1
    cases t with
    | one c => simp [freshV1, VT.cts, freshLeaves]
    | agg cs => simp [freshV1, VT.cts]
    | ptr e k => simp [freshV1, VT.cts, freshLeaves, freshLeaf]
    | fn g cs => exact freshCaps_rows G cs id

theorem freshV1s_den (G : BE) : ∀ (ts : List VT) (id : Nat) (cvs : List Value), (freshLeaves G id (cts ts)).1.map (Leaf.den env ph) = cvs → (freshV1s G id ts).1.map (V1.den env ph) = mkVals ts cvs := by
  intro ts
  induction ts with
  | nil => intro id cvs _; rfl
  | cons t ts ih =>
    intro id cvs h
    have e : cts (t :: ts) = t.cts ++ cts ts := by simp [cts]
    rw [e, freshLeaves_append, List.map_append] at h
    subst h
    have hl : (freshLeaves G id t.cts).1.length = t.cts.length := freshLeaves_len G _ _
    simp only [freshV1s, List.map_cons]
    rw [ih (id + t.cts.length) _ rfl]
    cases t with
    | one c => simp [freshV1, VT.cts, freshLeaves, mkVals, V1.den]
    | ptr e k =>
      simp only [freshV1, VT.cts, freshLeaves, freshLeaf, mkVals, V1.den, List.map_cons, List.map_nil, List.cons_append, List.nil_append, List.headD_cons, List.tail_cons, Leaf.den, Ph.val, ptrOf, IE.den]
      congr 1
      cases (ph.v id).1 with
      | none => rfl
      | some a => simp [Addr.add_zero']
    | fn g cs =>
      simp only [VT.cts, List.length_map] at hl
      simp only [freshV1, VT.cts, mkVals, V1.den, Leaf.den, freshCaps_den (env := env) G cs id]
      rw [List.take_append_of_le_length (by simp [hl]), List.take_of_length_le (by simp [hl]), List.drop_append_of_le_length (by simp [hl]), List.drop_of_length_le (by simp [hl])]
      simp
    | agg cs =>
      simp only [VT.cts] at hl
      simp only [freshV1, VT.cts, mkVals, V1.den]
      rw [List.take_append_of_le_length (by simp [hl]), List.take_of_length_le (by simp [hl]), List.drop_append_of_le_length (by simp [hl]), List.drop_of_length_le (by simp [hl])]
      simp

theorem fresh_spec {R : SliceRel} (G : BE) : ∀ (cs : List CT) (id : Nat) (cvs : List Value) (rds : List DV), fitAll R cs cvs rds → (∀ (i : Nat) (d : DV), rds[i]? = some d → env (id + i) = d) →
    (∀ (i : Nat) (v : Value), cvs[i]? = some v → ∀ e ks, cs[i]? = some (.s e ks) → ph.val (id + i) = v) →
    (freshLeaves G id cs).1.map (Leaf.den env ph) = cvs ∧ ∀ r ∈ (freshLeaves G id cs).2, ∃ i : Nat, i < cs.length ∧ r = ⟨id + i, r.e, r.ks, id + i, true, G⟩ ∧ cvs[i]? = some (ph.val r.id) ∧ R r.e r.ks (ph.val r.id) (env r.lv).list := by
  intro cs
  induction cs with
  | nil => intro id cvs rds h _ _; cases cvs <;> cases rds <;> simp_all [fitAll, freshLeaves]
  | cons c cs ih =>
    intro id cvs rds h he hp
    cases cvs with
    | nil => simp [fitAll] at h
    | cons v vs => cases rds with
      | nil => simp [fitAll] at h
      | cons d ds =>
        obtain ⟨e1, e2⟩ := ih (id + 1) vs ds h.2 (fun i d hd => by rw [show id + 1 + i = id + (i + 1) by omega]; exact he (i + 1) d (by simpa using hd))
          (fun i v hv e ks hc => by rw [show id + 1 + i = id + (i + 1) by omega]; exact hp (i + 1) v (by simpa using hv) e ks (by simpa using hc))
        have hd0 : env id = d := by have := he 0 d rfl; simpa using this
        have hf := h.1
        have hrest : ∀ r ∈ (freshLeaves G (id + 1) cs).2, ∃ i : Nat, i < (c :: cs).length ∧ r = ⟨id + i, r.e, r.ks, id + i, true, G⟩ ∧ (v :: vs)[i]? = some (ph.val r.id) ∧ R r.e r.ks (ph.val r.id) (env r.lv).list := fun r hr => by
          obtain ⟨i, h1, h2, h3, h4⟩ := e2 r hr
          refine ⟨i + 1, by simpa using h1, ?_, by simpa using h3, h4⟩
          rw [show id + (i + 1) = id + 1 + i by omega]; exact h2
        cases c with
        | c k =>
          refine ⟨?_, ?_⟩
          · simp only [freshLeaves, List.map_cons, e1]
            congr 1
            cases k <;> cases d <;> simp_all [fit1, freshLeaf, Leaf.den, IE.den, BE.den, DV.int, DV.bool]
          · intro r hr
            have : r ∈ (freshLeaves G (id + 1) cs).2 := by cases k <;> simpa [freshLeaves, freshLeaf] using hr
            exact hrest r this
        | s e ks =>
          have hv : ph.val id = v := by have := hp 0 v rfl e ks rfl; simpa using this
          refine ⟨?_, ?_⟩
          · simp only [freshLeaves, List.map_cons, e1, freshLeaf, Leaf.den, hv]
          · intro r hr
            simp only [freshLeaves, freshLeaf, List.cons_append, List.nil_append, List.mem_cons] at hr
            rcases hr with rfl | hr
            · refine ⟨0, by simp, by simp, by simp [hv], ?_⟩
              simp only [hv, hd0]
              cases d <;> simp_all [fit1, DV.list]
            · exact hrest r hr

theorem freshLeaves_all {q : Nat → Bool} (G : BE) (hG : G.all q = true) : ∀ (cs : List CT) (id : Nat), (∀ i, i < cs.length → q (id + i) = true) → leavesAll q (freshLeaves G id cs).1 = true ∧ ∀ r ∈ (freshLeaves G id cs).2, r.all q = true := by
  intro cs
  induction cs with
  | nil => intro id _; simp [freshLeaves, leavesAll]
  | cons c cs ih =>
    intro id h
    obtain ⟨e1, e2⟩ := ih (id + 1) (fun i hi => by rw [show id + 1 + i = id + (i + 1) by omega]; exact h (i + 1) (by simpa using hi))
    have h0 : q id = true := by have := h 0 (by simp); simpa using this
    cases c with
    | c k => cases k <;> simp_all [freshLeaves, freshLeaf, leavesAll, Leaf.all, IE.all, BE.all]
    | s e ks =>
      refine ⟨by simp_all [freshLeaves, freshLeaf, leavesAll, Leaf.all], ?_⟩
      intro r hr
      simp only [freshLeaves, freshLeaf, List.cons_append, List.nil_append, List.mem_cons] at hr
      rcases hr with rfl | hr
      · simp [Row.all, h0, hG]
      · exact e2 r hr

theorem freshV1s_all {q : Nat → Bool} (G : BE) (hG : G.all q = true) : ∀ (ts : List VT) (id : Nat), (∀ i, i < (cts ts).length → q (id + i) = true) → v1sAll q (freshV1s G id ts).1 = true := by
  intro ts
  induction ts with
  | nil => intro id _; rfl
  | cons t ts ih =>
    intro id h
    have e : cts (t :: ts) = t.cts ++ cts ts := by simp [cts]
    rw [e, List.length_append] at h
    have h1 := (freshLeaves_all G hG t.cts id (fun i hi => h i (by omega))).1
    have h2 := ih (id + t.cts.length) (fun i hi => by rw [Nat.add_assoc]; exact h _ (by omega))
    simp only [freshV1s, v1sAll, h2, Bool.and_true]
    cases t with
    | one c => simpa [freshV1, VT.cts, freshLeaves, leavesAll, V1.all] using h1
    | ptr e k => simpa [freshV1, VT.cts, freshLeaves, freshLeaf, leavesAll, V1.all, Leaf.all, IE.all] using h1
    | fn g cs =>
      simp only [freshV1, V1.all, Leaf.all]
      exact freshCaps_all G cs id fun i hi => h i (by simp [VT.cts]; omega)
    | agg cs => simpa [freshV1, VT.cts, V1.all] using h1

theorem mem_insRows {r : Row} : ∀ {rs l : List Row}, r ∈ insRows rs l ↔ r ∈ rs ∨ r ∈ l := by
  intro rs
  induction rs with
  | nil => intro l; simp [insRows]
  | cons x rs ih =>
    intro l
    have : insRows (x :: rs) l = insRow x (insRows rs l) := rfl
    rw [this, mem_insRow, ih, List.mem_cons, or_assoc]

end Go.Sx
