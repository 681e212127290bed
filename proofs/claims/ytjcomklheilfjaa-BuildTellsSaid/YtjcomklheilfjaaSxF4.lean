/- The symbolic executor: it is right. -/
import Derived.Test.YtjcomklheilfjaaSxF3
set_option linter.unusedVariables false
set_option linter.unusedSimpArgs false
namespace Go.Sx
open Go.RowKit

variable {env env' : Env} {ph ph' : Ph} {P : Program}

/-! ### What a tree says -/
def upF (F : Nat → List DV → Prop) (id : Nat) (G : List DV → Prop) : Nat → List DV → Prop := fun j vs => if j = id then G vs else F j vs

def Tree.holds (Γ : Known) (R : List DV → Prop) : Tree → Env → (Nat → List DV → Prop) → Prop
  | .ret vals, env, _ => R (vals.map (DE.den env))
  | .stuck _, _, _ => False
  | .ev e t, env, F => e.holds Γ (fun env' => t.holds Γ R env' F) env
  | .ite c t e, env, F => (c.den env = true → t.holds Γ R env F) ∧ (c.den env = false → e.holds Γ R env F)
  | .loop id entry ks base body, env, F => ∃ (inv : List DV → Prop) (meas : List DV → Nat), inv (entry.map (DE.den env)) ∧
      ∀ ds, kinds ks ds = true → inv ds → body.holds Γ R (env.sets base ds) (upF F id (fun vs => inv vs ∧ meas vs < meas ds))
  | .again id vals, env, F => F id (vals.map (DE.den env))

theorem evTree_holds {Γ : Known} {R : List DV → Prop} {F : Nat → List DV → Prop} {t : Tree} : ∀ {es : List Ev} {env : Env}, (evTree es t).holds Γ R env F → evsHold Γ es (fun env' => t.holds Γ R env' F) env := by
  intro es
  induction es with
  | nil => intro env h; exact h
  | cons e es ih =>
    intro env h
    simp only [evTree, Tree.holds] at h
    simp only [evsHold]
    cases e with
    | need p => exact ⟨h.1, ih h.2⟩
    | call f g args res base =>
      obtain ⟨c, h1, h2, h3⟩ := h
      exact ⟨c, h1, h2, fun rs hk hr => ih (h3 rs hk hr)⟩
    | letl id op => exact ih h

/-! ### The results -/
theorem rowsOf_eq : ∀ {vs : List V1}, rowsOf vs = rowsIn (allLeaves vs) := by
  intro vs
  induction vs with
  | nil => rfl
  | cons v vs ih =>
    have : allLeaves (v :: vs) = v.leaves ++ allLeaves vs := by simp [allLeaves]
    rw [this]
    simp only [rowsOf, ih, rowsIn, List.filterMap_append]
    rfl

theorem rowsIn_inj : ∀ {L : List Leaf} {i j r : Nat}, (rowsIn L).Nodup → L[i]? = some (.s r) → L[j]? = some (.s r) → i = j := by
  intro L
  induction L with
  | nil => intro i j r _ h; simp at h
  | cons x L ih =>
    intro i j r hnd hi hj
    have hmem : ∀ {j : Nat}, L[j]? = some (.s r) → r ∈ rowsIn L := fun h => by
      unfold rowsIn
      exact List.mem_filterMap.2 ⟨_, List.mem_of_getElem? h, rfl⟩
    have hnd' : (rowsIn L).Nodup := by
      unfold rowsIn at hnd ⊢
      rw [List.filterMap_cons] at hnd
      split at hnd
      · exact hnd
      · exact (List.nodup_cons.1 hnd).2
    have hx : x = .s r → r ∉ rowsIn L := fun e => by
      subst e
      unfold rowsIn at hnd
      rw [List.filterMap_cons] at hnd
      exact (List.nodup_cons.1 hnd).1
    cases i with
    | zero =>
      simp only [List.getElem?_cons_zero, Option.some.injEq] at hi
      cases j with
      | zero => rfl
      | succ j => exact absurd (hmem (by simpa using hj)) (hx hi)
    | succ i => cases j with
      | zero =>
        simp only [List.getElem?_cons_zero, Option.some.injEq] at hj
        exact absurd (hmem (by simpa using hi)) (hx hj)
      | succ j => have := ih hnd' (by simpa using hi) (by simpa using hj); omega

def resSem (tmps : Array Value) (r : ResultVar) : Sem Value :=
  match r with
  | .tmp t => pure (tmps.getD t undef)
  | .cell b t => do loadVar t (← asAddr (tmps.getD b undef))

theorem resVs_run {w0 w : World} {st : St} {a : Act} (hs : Sat w0 env ph st a w) : ∀ {rs : List ResultVar} {vs : List V1}, resVs P st rs = some vs →
    (rs.mapM (resSem a.tmps)).run P w = Result.ok (vs.map (V1.den env ph)) w := by
  intro rs
  induction rs with
  | nil => intro vs h; simp only [resVs, Option.some.injEq] at h; subst h; simp
  | cons r rs ih =>
    intro vs h
    simp only [resVs] at h
    split at h
    · rename_i v vs' hv hvs
      simp only [Option.some.injEq] at h; subst h
      have h1 : (resSem a.tmps r).run P w = Result.ok (v.den env ph) w := by
        unfold resV at hv
        unfold resSem
        split at hv
        · rename_i t
          have := opnd1_den hv trueDen hs.tmps
          simp only [Act.eval] at this
          simp only [Sem.run_pure, this]
        · rename_i b t
          split at hv
          · rename_i id off hl
            have := opndL_den hl trueDen hs.tmps
            simp only [Act.eval] at this
            simp only [Option.map_eq_some_iff] at hv
            obtain ⟨⟨ns, v'⟩, hq, rfl⟩ := hv
            have hns : ns = [] := by
              simp only [loadQ] at hq
              split at hq
              · simp only [Option.map_eq_some_iff, Prod.mk.injEq] at hq
                obtain ⟨_, _, h, _⟩ := hq
                exact h.symm
              · cases hq
            have hrun := loadQ_run (w' := w) hq trueDen (fun n hn => by rw [hns] at hn; simp at hn) hs.mem (fun _ _ => rfl)
            simp only [Instr.loadAt, Leaf.den, Instr.sureAddr, Sem.run_bind, Sem.run_pure, Result.andThen_ok] at hrun
            simp only [this, Leaf.den, asAddr, Sem.run_bind, Sem.run_pure, Result.andThen_ok]
            exact hrun
          · cases hv
      simp only [List.mapM_cons, Sem.run_bind, h1, Result.andThen_ok, ih hvs, Sem.run_pure, List.map_cons]
    · cases h

theorem results_run {w0 w : World} {st : St} {a : Act} {fn : Func} {vs : List V1} (hs : Sat w0 env ph st a w) (h : resVs P st fn.results.toList = some vs) : (results fn a.tmps).run P w = .ok (packed (vs.map (V1.den env ph))) w := by
  have := resVs_run hs h
  have e : results fn a.tmps = (do
      let vs ← fn.results.mapM (resSem a.tmps)
      pure (if h : vs.size = 1 then vs[0] else .tuple vs)) := rfl
  rw [e, Array.mapM_eq_mapM_toList]
  simp only [Sem.run_bind, Sem.run_map, this, Result.andThen_ok, Sem.run_pure]
  match vs with
  | [] => rfl
  | [v] => simp [packed]
  | _ :: _ :: _ => simp [packed]

/-- What a function's end gives. -/
def AtEnd (P : Program) (fn : Func) (res : List VT) (w0 : World) (R : List DV → Prop) (a : Act) (w : World) : Prop :=
  a.defers = [] ∧ ∃ cvs rds, (results fn a.tmps).run P w = .ok (packed (mkVals res cvs)) w ∧ Below w0.heap.size w0 w ∧ fitAll (ownsR w w0.heap.size) (cts res) cvs rds ∧ apartVals cvs ∧ R rds

theorem ret_sound {Γ : Known} {R : List DV → Prop} {F : Nat → List DV → Prop} {w0 w : World} {st : St} {a : Act} {fn : Func} {res : List VT} (hs : Sat w0 env ph st a w) (h : (retTree P fn res st).holds Γ R env F) : AtEnd P fn res w0 R a w := by
  unfold retTree at h
  split at h
  · rename_i vs hvs
    split at h
    · rename_i ds hds
      split at h
      · rename_i hc
        simp only [Bool.and_eq_true] at hc
        obtain ⟨⟨hnp, hnd⟩, hown⟩ := hc
        rw [rowsOf_eq] at hnd hown
        have hnd := nodupB_spec hnd
        have ho : ∀ row ∈ rowsIn (allLeaves vs), ∃ r, r ∈ st.rows ∧ r.id = row ∧ getRow st row = some r ∧ r.own = true ∧ r.g.den env = true := fun row hrow => by
          have := List.all_eq_true.1 hown row hrow
          split at this
          · rename_i r hr
            simp only [Bool.and_eq_true, decide_eq_true_eq] at this
            obtain ⟨hm, hid⟩ := getRow_mem hr
            exact ⟨r, hm, hid, hr, this.1, by rw [this.2]; rfl⟩
          · cases this
        obtain ⟨cvs0, e1, e2, e7⟩ := v1sDE_ok (env := env) (ph := ph) (R := ownsR w w0.heap.size) (fun e ks hks => ⟨hks, nil_own w _ e _⟩) hds (fun row hrow r hr _ => by
          obtain ⟨r', hm, _, hr', hown', hg⟩ := ho row hrow
          rw [hr, Option.some.injEq] at hr'
          subst hr'
          obtain ⟨h0, hok⟩ := hs.mem.row r hm hg
          rw [if_pos hown'] at hok
          exact ⟨h0, hok⟩) (fun h => by rw [hnp] at h; cases h)
        have e7 := e7 hnp
        subst e7
        refine ⟨hs.defers, _, _, by rw [← e1]; exact results_run hs hvs, hs.below, e2, ?_, h⟩
        intro i j u v hij hu hv k hk hk'
        rw [List.getElem?_map] at hu hv
        simp only [Option.map_eq_some_iff] at hu hv
        obtain ⟨l, hl, rfl⟩ := hu
        obtain ⟨l', hl', rfl⟩ := hv
        have hsl : ∀ (l : Leaf) k, (l.den env ph).ownBlock = some k → ∃ r, l = .s r := fun l k h => by
          cases l with
          | s r => exact ⟨r, rfl⟩
          | ep row sz x j =>
            simp only [Leaf.den] at h
            split at h <;> simp [Value.ownBlock] at h
          | _ => simp [Leaf.den, Value.ownBlock] at h
        obtain ⟨r, rfl⟩ := hsl l k hk
        obtain ⟨r', rfl⟩ := hsl l' k hk'
        have hrm : r ∈ rowsIn (allLeaves vs) := List.mem_filterMap.2 ⟨_, List.mem_of_getElem? hl, rfl⟩
        have hrm' : r' ∈ rowsIn (allLeaves vs) := List.mem_filterMap.2 ⟨_, List.mem_of_getElem? hl', rfl⟩
        obtain ⟨x, hx, hxi, _, hxo, hxg⟩ := ho r hrm
        obtain ⟨x', hx', hxi', _, hxo', hxg'⟩ := ho r' hrm'
        simp only [Leaf.den, ← hxi, ← hxi'] at hk hk'
        exact hs.mem.rr x hx x' hx' (fun e => hij (rowsIn_inj hnd hl (by rw [hl', ← hxi', ← e, hxi]))) hxo hxg hxg' k (by simp [Row.foot, hxo, hk]) (by simp [Row.foot, hxo', hk'])
      · exact h.elim
    · exact h.elim
  · exact h.elim

/-! ### The machine -/
def Reach (P : Program) (b : Frame) (cs : List Frame) (R : Act → World → Prop) (m : Machine) : Prop := ∃ a w todo, R a w ∧ Steps P m (lone { b.at a todo with mode := .returning } cs w)

theorem Reach.step {b : Frame} {cs : List Frame} {R : Act → World → Prop} {m m' : Machine} (h : step P m = .next m') (hr : Reach P b cs R m') : Reach P b cs R m := by
  obtain ⟨a, w, todo, h1, h2⟩ := hr
  exact ⟨a, w, todo, h1, .head h h2⟩
theorem Reach.steps {b : Frame} {cs : List Frame} {R : Act → World → Prop} {m m' : Machine} (h : Steps P m m') (hr : Reach P b cs R m') : Reach P b cs R m := by
  obtain ⟨a, w, todo, h1, h2⟩ := hr
  exact ⟨a, w, todo, h1, h.trans h2⟩

def itemsOf : List K → List Item
  | [] => []
  | .code c :: k => .code c :: itemsOf k
  | .blk id :: k => .inBlock id :: itemsOf k
  | .loop c :: k => .inLoop c :: itemsOf k
  | .linv c _ _ _ _ :: k => .inLoop c :: itemsOf k

/-- What the loops that are under way have been shown to do. -/
def KOk (P : Program) (b : Frame) (cs : List Frame) (w0 : World) (E : Act → World → Prop) (F : Nat → List DV → Prop) (env : Env) (next : Nat) : List K → Prop
  | [] => True
  | .linv c id base h ks :: k => (base ≤ next ∧ ∃ e0 : Env, (∀ j, j < base → env j = e0 j) ∧ ∀ env' ph' st' a' w' vals, (∀ j, j < base → env' j = e0 j) → Sat w0 env' ph' st' a' w' → back base ks h st' = some vals → F id (vals.map (DE.den env')) →
      Reach P b cs E (lone (b.at a' (.inLoop c :: itemsOf k)) cs w')) ∧ KOk P b cs w0 E F env next k
  | .code _ :: k => KOk P b cs w0 E F env next k
  | .blk _ :: k => KOk P b cs w0 E F env next k
  | .loop _ :: k => KOk P b cs w0 E F env next k

theorem KOk.mono {b : Frame} {cs : List Frame} {w0 : World} {E : Act → World → Prop} {F : Nat → List DV → Prop} {next next' : Nat} (hag : ∀ j, j < next → env j = env' j) (hn : next ≤ next') : ∀ {k : List K}, KOk P b cs w0 E F env next k → KOk P b cs w0 E F env' next' k := by
  intro k
  induction k with
  | nil => intro _; trivial
  | cons x k ih =>
    intro h
    cases x with
    | linv c id base hd ks =>
      obtain ⟨⟨h1, e0, h2, h3⟩, h4⟩ := h
      exact ⟨⟨by omega, e0, fun j hj => by rw [← hag j (by omega)]; exact h2 j hj, h3⟩, ih h4⟩
    | code c => exact ih h
    | blk id => exact ih h
    | loop c => exact ih h

theorem KOk.up {b : Frame} {cs : List Frame} {w0 : World} {E : Act → World → Prop} {F : Nat → List DV → Prop} {next id : Nat} {G : List DV → Prop} : ∀ {k : List K}, hasLoop id k = false → KOk P b cs w0 E F env next k → KOk P b cs w0 E (upF F id G) env next k := by
  intro k
  induction k with
  | nil => intro _ _; trivial
  | cons x k ih =>
    intro hl h
    cases x with
    | linv c id' base hd ks =>
      simp only [hasLoop, Bool.or_eq_false_iff, beq_eq_false_iff_ne, ne_eq] at hl
      obtain ⟨⟨h1, e0, h2, h3⟩, h4⟩ := h
      refine ⟨⟨h1, e0, h2, fun env' ph' st' a' w' vals g1 g2 g3 g4 => h3 env' ph' st' a' w' vals g1 g2 g3 ?_⟩, ih hl.2 h4⟩
      simpa [upF, hl.1] using g4
    | code c => exact ih hl h
    | blk id => exact ih hl h
    | loop c => exact ih hl h

theorem popTo_spec {b : Frame} {cs : List Frame} {w0 : World} {E : Act → World → Prop} {F : Nat → List DV → Prop} {next id : Nat} : ∀ {k k' : List K}, popTo id k = some k' → exitTo id (itemsOf k) = some (itemsOf k') ∧ (KOk P b cs w0 E F env next k → KOk P b cs w0 E F env next k') := by
  intro k
  induction k with
  | nil => intro k' h; simp [popTo] at h
  | cons x k ih =>
    intro k' h
    cases x with
    | blk id' =>
      simp only [popTo] at h
      split at h
      · rename_i he; subst he
        simp only [Option.some.injEq] at h; subst h
        exact ⟨by simp [itemsOf, exitTo], fun h => h⟩
      · rename_i he
        obtain ⟨h1, h2⟩ := ih h
        exact ⟨by simp [itemsOf, exitTo, he, h1], h2⟩
    | code c => obtain ⟨h1, h2⟩ := ih (by simpa [popTo] using h); exact ⟨by simp [itemsOf, exitTo, h1], h2⟩
    | loop c => obtain ⟨h1, h2⟩ := ih (by simpa [popTo] using h); exact ⟨by simp [itemsOf, exitTo, h1], h2⟩
    | linv c id' base hd ks => obtain ⟨h1, h2⟩ := ih (by simpa [popTo] using h); exact ⟨by simp [itemsOf, exitTo, h1], fun hk => h2 hk.2⟩

theorem Sat.sameNames {w0 w : World} {st : St} {a : Act} (hs : Sat w0 env ph st a w) (hd : st.dom = []) (h : ∀ j, j < st.next → env j = env' j) : Sat w0 env' ph st a w :=
  hs.congr ⟨fun k hk => h k (by rw [has_next hd] at hk; simpa [belowB] using hk), fun _ _ => rfl, fun _ _ => rfl⟩

/-! ### A name's values told apart -/
theorem Leaf.fix_den {k : Nat} {v : Int} (h : (env k).int = v) : ∀ l : Leaf, (l.fix k v).den env ph = l.den env ph := by
  intro l
  unfold Leaf.fix
  split
  · split
    · rename_i hj; subst hj; simp [Leaf.den, IE.den, h]
    · rfl
  · rfl
theorem Leaf.fix_all {p : Nat → Bool} {k : Nat} {v : Int} : ∀ {l : Leaf}, l.all p = true → (l.fix k v).all p = true := by
  intro l h
  unfold Leaf.fix
  split
  · split
    · rfl
    · exact h
  · exact h
theorem leaves_fix_all {p : Nat → Bool} {k : Nat} {v : Int} : ∀ {ls : List Leaf}, leavesAll p ls = true → leavesAll p (ls.map (Leaf.fix k v)) = true := by
  intro ls
  induction ls with
  | nil => intro h; exact h
  | cons l ls ih =>
    intro h
    simp only [leavesAll, Bool.and_eq_true, List.map_cons] at h ⊢
    exact ⟨Leaf.fix_all h.1, ih h.2⟩
theorem V1.fix_den {k : Nat} {v : Int} (h : (env k).int = v) : ∀ x : V1, (x.fix k v).den env ph = x.den env ph := by
  intro x
  cases x with
  | one l => exact Leaf.fix_den h l
  | agg ls => simp only [V1.fix, V1.den, List.map_map, Function.comp_def, Leaf.fix_den h]
theorem V1.fix_all {p : Nat → Bool} {k : Nat} {v : Int} : ∀ {x : V1}, x.all p = true → (x.fix k v).all p = true := by
  intro x h
  cases x with
  | one l => exact Leaf.fix_all h
  | agg ls => exact leaves_fix_all h
theorem SV.fix_den {k : Nat} {v : Int} (h : (env k).int = v) : ∀ x : SV, (x.fix k v).den env ph = x.den env ph := by
  intro x
  cases x with
  | v x => exact V1.fix_den h x
  | tup xs => simp only [SV.fix, SV.den, List.map_map, Function.comp_def, V1.fix_den h]
theorem SV.fix_all {p : Nat → Bool} {k : Nat} {v : Int} : ∀ {x : SV}, x.all p = true → (x.fix k v).all p = true := by
  intro x h
  cases x with
  | v x => exact V1.fix_all h
  | tup xs =>
    simp only [SV.fix, SV.all] at h ⊢
    induction xs with
    | nil => exact h
    | cons x xs ih =>
      simp only [v1sAll, Bool.and_eq_true, List.map_cons] at h ⊢
      exact ⟨V1.fix_all h.1, ih h.2⟩
theorem Sat.fix {w0 w : World} {st : St} {a : Act} {k : Nat} {v : Int} (hs : Sat w0 env ph st a w) (h : (env k).int = v) : Sat w0 env ph (st.fix k v) a w := by
  have hb : ∀ b ∈ (st.fix k v).blks, ∃ b0 ∈ st.blks, b = { b0 with cells := b0.cells.map (Leaf.fix k v) } := fun b hb => by
    obtain ⟨b0, h1, rfl⟩ := List.mem_map.1 hb
    exact ⟨b0, h1, rfl⟩
  have hc : ∀ ls : List Leaf, (ls.map (Leaf.fix k v)).map (Leaf.den env ph) = ls.map (Leaf.den env ph) := fun ls => by
    rw [List.map_map]; exact List.map_congr_left fun l _ => Leaf.fix_den h l
  refine ⟨⟨by rw [← hs.tmps.1]; simp [St.fix], fun t s ht => ?_⟩, ⟨fun b hbm => ?_, fun b hbm b' hbm' hne => ?_, hs.mem.row, fun b hbm r hr h1 => ?_, hs.mem.rr⟩, hs.below, hs.defers, ⟨fun t s ht => ?_, fun b hbm => ?_, hs.names.rows⟩⟩
  · simp only [St.fix, List.getElem?_map] at ht
    cases h0 : st.tmps[t]? with
    | none => rw [h0] at ht; simp at ht
    | some s0 =>
      rw [h0] at ht
      cases s0 with
      | none => simp at ht
      | some s0 =>
        simp only [Option.map_some, Option.some.injEq] at ht
        subst ht
        rw [hs.tmps.2 t s0 h0]
        simp only [Slot.den, SV.fix_den h]
  · obtain ⟨b0, h1, rfl⟩ := hb b hbm
    have := hs.mem.blk b0 h1
    unfold BlkOk at *
    simp only [hc]
    exact this
  · obtain ⟨b0, h1, rfl⟩ := hb b hbm
    obtain ⟨b1, h2, rfl⟩ := hb b' hbm'
    exact hs.mem.bb b0 h1 b1 h2 hne
  · obtain ⟨b0, h2, rfl⟩ := hb b hbm
    exact hs.mem.br b0 h2 r hr h1
  · simp only [St.fix, List.getElem?_map] at ht
    cases h0 : st.tmps[t]? with
    | none => rw [h0] at ht; simp at ht
    | some s0 =>
      rw [h0] at ht
      cases s0 with
      | none => simp at ht
      | some s0 =>
        simp only [Option.map_some, Option.some.injEq] at ht
        subst ht
        have := hs.names.tmps t s0 h0
        simp only [Slot.all, Bool.and_eq_true] at this ⊢
        exact ⟨this.1, SV.fix_all this.2⟩
  · obtain ⟨b0, h1, rfl⟩ := hb b hbm
    have := hs.names.blks b0 h1
    simp only [Blk.all, Bool.and_eq_true] at this ⊢
    exact ⟨this.1, leaves_fix_all this.2⟩
theorem splitT_holds {Γ : Known} {R : List DV → Prop} {F : Nat → List DV → Prop} {k : Nat} {f : Int → Tree} : ∀ {vs : List Nat}, (splitT k f vs).holds Γ R env F → ∃ v : Int, (env k).int = v ∧ (f v).holds Γ R env F := by
  intro vs
  induction vs with
  | nil => intro h; exact h.elim
  | cons v vs ih =>
    intro h
    obtain ⟨h1, h2⟩ := h
    by_cases hv : (env k).int = (v : Int)
    · exact ⟨v, hv, h1 (by simp [BE.den, IE.den, hv])⟩
    · exact ih (h2 (by simp [BE.den, IE.den, hv]))

/-- **The executor is right.** -/
theorem exec_sound {Γ : Known} {cfg : Cfg} {fn : Func} {res : List VT} {w0 : World} {R : List DV → Prop} {b : Frame} {cs : List Frame} (hΓ : KnownOk P Γ cfg) : ∀ {n : Nat} {k : List K} {st : St} {env : Env} {ph : Ph} {a : Act} {w : World} {F : Nat → List DV → Prop},
    Sat w0 env ph st a w → st.dom = [] → (exec P cfg fn res n k st).holds Γ R env F → KOk P b cs w0 (AtEnd P fn res w0 R) F env st.next k → Reach P b cs (AtEnd P fn res w0 R) (lone (b.at a (itemsOf k)) cs w) := by
  intro n
  induction n with
  | zero => intro k st env ph a w F hs hd h hk; exact h.elim
  | succ n ih =>
    intro k st env ph a w F hs hd h hk
    cases k with
    | nil =>
      simp only [exec] at h
      exact ⟨a, w, [], ret_sound hs h, .one step_end⟩
    | cons x k =>
      cases x with
      | blk id =>
        simp only [exec] at h
        exact Reach.step step_inBlock (ih hs hd h hk)
      | loop c =>
        simp only [exec] at h
        exact Reach.step step_inLoop (ih (k := .code c :: .loop c :: k) hs hd h hk)
      | linv c id base hd' ks =>
        simp only [exec] at h
        split at h
        · rename_i vals hb
          obtain ⟨⟨h1, e0, h2, h3⟩, _⟩ := hk
          exact h3 env ph st a w vals h2 hs hb h
        · exact h.elim
      | code c =>
        cases c with
        | skip =>
          simp only [exec] at h
          exact Reach.step step_skip (ih hs hd h hk)
        | label l =>
          simp only [exec] at h
          exact Reach.step step_label (ih hs hd h hk)
        | seq x y =>
          simp only [exec] at h
          exact Reach.step step_seq (ih (k := .code x :: .code y :: k) hs hd h hk)
        | cond x y z =>
          simp only [exec] at h
          split at h
          · rename_i hl
            have := opndL_den hl trueDen hs.tmps
            exact Reach.step (step_cond (t := true) (by rw [this]; rfl)) (ih (k := .code y :: k) hs hd h hk)
          · rename_i hl
            have := opndL_den hl trueDen hs.tmps
            exact Reach.step (step_cond (t := false) (by rw [this]; rfl)) (ih (k := .code z :: k) hs hd h hk)
          · rename_i p _ _ hl
            have := opndL_den hl trueDen hs.tmps
            simp only [Leaf.den] at this
            obtain ⟨h1, h2⟩ := h
            cases hp : p.den env
            · exact Reach.step (step_cond (t := false) (by rw [this, hp])) (ih (k := .code z :: k) hs hd (h2 hp) hk)
            · exact Reach.step (step_cond (t := true) (by rw [this, hp])) (ih (k := .code y :: k) hs hd (h1 hp) hk)
          · exact h.elim
        | block id c =>
          simp only [exec] at h
          exact Reach.step step_block (ih (k := .code c :: .blk id :: k) hs hd h hk)
        | exit id =>
          simp only [exec] at h
          split at h
          · rename_i k' hp
            obtain ⟨h1, h2⟩ := popTo_spec (P := P) (b := b) (cs := cs) (w0 := w0) (E := AtEnd P fn res w0 R) (F := F) (env := env) (next := st.next) hp
            exact Reach.step (step_exit h1) (ih hs hd h (h2 hk))
          · exact h.elim
        | ret =>
          simp only [exec] at h
          exact ⟨a, w, _, ret_sound hs h, .one step_ret⟩
        | region id ops draw =>
          simp only [exec] at h
          have go : ∀ st1 : St, Sat w0 env ph st1 a w → st1.dom = [] → st1.next = st.next → (match regionExec P cfg ops draw st1 with
              | some (evs, st') => evTree evs (exec P cfg fn res n k st')
              | none => .stuck ("region " ++ toString id)).holds Γ R env F → Reach P b cs (AtEnd P fn res w0 R) (lone (b.at a (itemsOf (.code (.region id ops draw) :: k))) cs w) := by
           intro st1 hs1 hd1 hnx h
           split at h
           · rename_i evs st' hr
             have hwp := regionExec_sound (id := id) (G := fun a' w' => Reach P b cs (AtEnd P fn res w0 R) (lone (b.at a' (itemsOf k)) cs w')) hΓ hs1 hr (evTree_holds h) (fun env' ph' a' w' hs' hag hn hd' h' =>
               ih hs' hd' h' (KOk.mono (fun j hj => hag.e j (by rw [has_next hd1]; simpa [belowB, hnx] using hj)) (by omega) hk))
             obtain ⟨e, a', w', ⟨rfl, hG⟩, harr⟩ := hwp b (itemsOf k) cs
             exact Reach.steps harr hG
           · exact h.elim
          split at h
          · exact go st hs hd rfl h
          · rename_i x m hsp
            obtain ⟨v, hv, h⟩ := splitT_holds h
            exact go (st.fix x v) (hs.fix hv) hd rfl h
        | loop c =>
          simp only [exec] at h
          split at h
          · exact Reach.step step_loop (ih (k := .code c :: .loop c :: k) hs hd h hk)
          · rename_i i hint hf
            split at h
            · rename_i hd0 hm
              split at h
              · exact h.elim
              · rename_i hnl
                have hnl : hasLoop i k = false := by simpa using hnl
                obtain ⟨inv, meas, hi0, hbody⟩ := h
                obtain ⟨g1, g2, g3, ph0, g4⟩ := mkHead_sound hs hd hm
                have rounds : ∀ N ds (a : Act) (w : World) (ph' : Ph), meas ds = N → inv ds → kinds hd0.ks ds = true → Sat w0 (env.sets st.next ds) ph' hd0.st a w → Reach P b cs (AtEnd P fn res w0 R) (lone (b.at a (.code c :: .inLoop c :: itemsOf k)) cs w) := by
                  intro N
                  induction N using Nat.strongRecOn with
                  | _ N ihN =>
                    intro ds a w ph' hN hi hkd hs'
                    refine ih (k := .code c :: .linv c i st.next hd0.st hd0.ks :: k) hs' g1 (hbody ds hkd hi) ⟨⟨by omega, env, fun j hj => Env.sets_lt hj, ?_⟩, ?_⟩
                    · intro env' ph2 st' a' w' vals he hs2 hb hF
                      obtain ⟨hk1, ph3, hs3⟩ := back_sound hs2 hs'.names hb
                      simp only [upF, if_true] at hF
                      have hs4 : Sat w0 (env.sets st.next (vals.map (DE.den env'))) ph3 hd0.st a' w' := by
                        refine hs3.sameNames g1 fun j hj => ?_
                        have hl := kinds_len hk1
                        rcases Nat.lt_or_ge j st.next with h1 | h1
                        · rw [Env.sets_lt h1, Env.sets_lt h1, he j h1]
                        · have hlt : j - st.next < (vals.map (DE.den env')).length := by omega
                          obtain ⟨d, hd⟩ : ∃ d, (vals.map (DE.den env'))[j - st.next]? = some d := ⟨_, List.getElem?_eq_getElem hlt⟩
                          have hj' : j = st.next + (j - st.next) := by omega
                          rw [hj', Env.sets_in hd, Env.sets_in hd]
                      exact Reach.step step_inLoop (ihN (meas (vals.map (DE.den env'))) (by omega) _ a' w' ph3 rfl hF.1 hk1 hs4)
                    · exact KOk.up hnl (KOk.mono (fun j hj => (Env.sets_lt hj).symm) (by omega) hk)
                exact Reach.step step_loop (rounds _ _ a w ph0 rfl hi0 g3 g4)
            · exact h.elim
        | _ => exact h.elim

end Go.Sx
