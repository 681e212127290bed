/- The symbolic executor: regions. -/
import Derived.Test.YtjcomklheilfjaaSxE3
import Derived.OrdersHeld
set_option linter.unusedVariables false
set_option linter.unusedSimpArgs false
namespace Go.Sx
open Go.RowKit

variable {env env' : Env} {ph ph' : Ph} {P : Program}

theorem BE.mk_and_den {g p : BE} : (BE.and g p).mk.den env = (g.den env && p.den env) := by rw [BE.den_mk]; rfl

theorem guardOf_spec {ops : Array Oper} {st : St} {o : Oper} {G : BE} {a : Act} (h : guardOf ops st o = some G) (ht : TmpsOk env ph st.tmps a.tmps) : Region.wanted o (yielded ops a.tmps) = G.den env := by
  unfold guardOf at h
  unfold Region.wanted
  split at h
  · rename_i hg
    simp only [Option.some.injEq] at h; subst h
    simp [hg, BE.den]
  · rename_i j want hg
    simp only [hg]
    split at h
    · rename_i t hd
      split at h
      · rename_i g p hs
        simp only [Option.some.injEq] at h; subst h
        have := ht.2 t _ hs
        simp only [yielded, hd, Option.bind_some, this, Slot.den, SV.den, V1.den, Leaf.den, BE.mk_and_den]
        cases hgd : g.den env
        · simp [undef]
        · simp only [if_true, Bool.true_and]
          cases want
          · simp only [Bool.false_eq_true, if_false]
            rw [BE.den_mk]
            simp only [BE.den]
            cases p.den env <;> rfl
          · simp only [if_true]
            cases p.den env <;> rfl
      · cases h
    · cases h

theorem needs_spec {Γ : Known} {G : BE} {k : Env → Prop} : ∀ {ns : List BE}, evsHold Γ (needs G ns) k env → k env ∧ (G.den env = true → ∀ n ∈ ns, n.den env = true) := by
  intro ns
  induction ns with
  | nil => intro h; exact ⟨h, fun _ n hn => by simp at hn⟩
  | cons n ns ih =>
    intro h
    simp only [needs] at h
    split at h
    · rename_i he
      obtain ⟨h1, h2⟩ := ih h
      refine ⟨h1, fun hG m hm => ?_⟩
      rcases List.mem_cons.1 hm with rfl | hm
      · exact BE.under_den hG (by rw [he]; rfl)
      · exact h2 hG m hm
    · obtain ⟨h0, h⟩ := needT h
      obtain ⟨h1, h2⟩ := ih h
      refine ⟨h1, fun hG m hm => ?_⟩
      rcases List.mem_cons.1 hm with rfl | hm
      · exact BE.under_den hG h0
      · exact h2 hG m hm

theorem Step.wide {w0 w w' : World} {st st' : St} {a' : Act} {row : Option Nat} (h : Step w0 env env' ph ph' st st' a' w w' none) : Step w0 env env' ph ph' st st' a' w w' row :=
  ⟨h.sat, h.agree, grownBy_wide h.grown, h.mono⟩

theorem putS_spec {st st' : St} {dst : Option Tmp} {s : Slot} (h : st.putS dst s = some st') : s.all st.has = true ∧ st' = st.put dst s := by
  unfold St.putS at h
  split at h
  · rename_i hc; simp only [Option.some.injEq] at h; exact ⟨hc, h.symm⟩
  · cases h

theorem put_step {w0 w : World} {st : St} {a : Act} {dst : Option Tmp} {s : Slot} {v : Value} (h : Sat w0 env ph st a w) (hs : s.all st.has = true) (hv : v = s.den env ph) : Step w0 env env ph ph st (st.put dst s) (a.put dst v) w w none :=
  ⟨h.put hs hv, agree_refl, grownBy_refl w, fun k hk => by rw [has_put]; exact hk⟩

/-- One operation: what its turn asks. -/
def opK (P : Program) (ops : Array Oper) (Q : Exit → Act → World → Prop) (o : Oper) (K : Act → World → Prop) (a : Act) (w : World) : Prop :=
  if Region.wanted o (yielded ops a.tmps) then o.wp P a w K Q ∨ (o.asks P a w ∧ LetsOut Q) else K (a.put o.dst undef) w

theorem opExec_sound {Γ : Known} {cfg : Cfg} {ops : Array Oper} {w0 w : World} {st st' : St} {a : Act} {o : Oper} {key : Nat} {evs : List Ev} {k : Env → Prop} {K : Act → World → Prop} {Q : Exit → Act → World → Prop}
    (hs : Sat w0 env ph st a w) (h : opExec P cfg ops st key o = some (evs, st')) (hk : evsHold Γ evs k env) (hΓ : KnownOk P Γ cfg)
    (hK : ∀ env' ph' a' w', Step w0 env env' ph ph' st st' a' w w' (opW st ph o.op) → k env' → K a' w') : opK P ops Q o K a w := by
  unfold opExec at h
  unfold opK
  split at h
  · cases h
  · rename_i hg
    simp only [Option.some.injEq, Prod.mk.injEq] at h
    obtain ⟨rfl, rfl⟩ := h
    rw [guardOf_spec hg hs.tmps]
    simp only [BE.den, Bool.false_eq_true, if_false]
    exact hK _ _ _ _ (put_step hs noSlot_all noSlot_den.symm).wide hk
  · rename_i G hne hg
    rw [guardOf_spec hg hs.tmps]
    split at h
    · rename_i ns sv hq
      split at h
      · rename_i st1 hput
        simp only [Option.some.injEq, Prod.mk.injEq] at h
        obtain ⟨rfl, rfl⟩ := h
        obtain ⟨hall, rfl⟩ := putS_spec hput
        obtain ⟨hk, hn⟩ := needs_spec hk
        cases hG : G.den env
        · simp only [Bool.false_eq_true, if_false]
          exact hK _ _ _ _ (put_step hs hall (by simp [Slot.den, hG])).wide hk
        · simp only [if_true]
          refine .inl ?_
          unfold Oper.wp
          rw [qop_run hq hG (hn hG) hs.tmps hs.mem (w' := w) (fun _ _ => rfl), Oper.upon_value]
          exact hK _ _ _ _ (put_step hs hall (by simp [Slot.den, hG])).wide hk
      · cases h
    · split at h
      · rename_i f args argTypes hop
        obtain ⟨c, hc1, hc2, hc3⟩ : ∃ c : Call, o.op = .call c ∧ c.callee = .value (.func f) ∧ c.args = args := ⟨_, hop, rfl, rfl⟩
        subst hc3
        obtain ⟨h1, h2⟩ := cop_sound (Q := Q) (K := K) hs hc1 hc2 h hk hΓ (fun env' ph' a' w' hst hk' => hK env' ph' a' w' hst.wide hk')
        cases hG : G.den env
        · simp only [Bool.false_eq_true, if_false]
          exact h2 hG
        · simp only [if_true]
          exact .inl (h1 hG)
      · rename_i t args argTypes hop
        obtain ⟨c, hc1, hc2, hc3⟩ : ∃ c : Call, o.op = .call c ∧ c.callee = .value (.tmp t) ∧ c.args = args := ⟨_, hop, rfl, rfl⟩
        subst hc3
        obtain ⟨h1, h2⟩ := copF_sound (Q := Q) (K := K) hs hc1 hc2 h hk hΓ (fun env' ph' a' w' hst hk' => hK env' ph' a' w' hst.wide hk')
        cases hG : G.den env
        · simp only [Bool.false_eq_true, if_false]
          exact h2 hG
        · simp only [if_true]
          exact .inl (h1 hG)
      · rename_i t n parts hop
        unfold bsop at h
        split at h
        · rename_i e ps hu hps
          split at h
          · rename_i ks hfl
            split at h
            · rename_i hc
              simp only [Bool.and_eq_true, decide_eq_true_eq] at hc
              obtain ⟨⟨⟨h1, h2⟩, h3⟩, h4⟩ := hc
              split at h
              · rename_i rows hrows
                cases hG : G.den env
                · simp only [Bool.false_eq_true, if_false]
                  unfold newRow at h
                  split at h
                  · rename_i hf
                    simp only [Bool.and_eq_true] at hf
                    simp only [Option.some.injEq, Prod.mk.injEq] at h
                    obtain ⟨rfl, rfl⟩ := h
                    exact hK _ _ _ _ (norow_sat hs hf.2 hG hf.1).wide hk
                  · cases h
                · simp only [if_true]
                  refine .inl ?_
                  obtain ⟨nx, w', a', env', ph', hrun, hy, hst, hk'⟩ := buildSlice_loud hs hop hu hG hps h1 h2 h3 h4 hrows h hk
                  unfold Oper.wp
                  rw [hrun]
                  cases nx with
                  | value v =>
                    simp only [Yield] at hy
                    subst hy
                    exact hK _ _ _ _ hst hk'
                  | skip =>
                    simp only [Yield] at hy
                    subst hy
                    exact hK _ _ _ _ hst hk'
                  | _ => exact absurd hy (by simp [Yield])
              · cases h
            · cases h
          · cases h
        · cases h
      · rename_i op hnc _
        split at h
        · rename_i hG; subst hG
          simp only [BE.den, if_true]
          refine .inl ?_
          obtain ⟨nx, w', a', env', ph', hrun, hy, hst, hk'⟩ := lop_sound hs h hk
          unfold Oper.wp
          rw [hrun]
          cases nx with
          | value v =>
            simp only [Yield] at hy
            subst hy
            exact hK _ _ _ _ hst hk'
          | skip =>
            simp only [Yield] at hy
            subst hy
            exact hK _ _ _ _ hst hk'
          | _ => exact absurd hy (by simp [Yield])
        · cases h

/-! ### A region in the order of its text -/
theorem regionText_sound {Γ : Known} {cfg : Cfg} {ops : Array Oper} {base : Nat} {w0 : World} {k : Env → Prop} {Q : Exit → Act → World → Prop} (hΓ : KnownOk P Γ cfg) : ∀ {l : List Oper} {i : Nat} {w : World} {st st' : St} {a : Act} {evs : List Ev} {env : Env} {ph : Ph},
    Sat w0 env ph st a w → regionText P cfg ops base i l st = some (evs, st') → evsHold Γ evs k env →
    (∀ env' ph' a' w', Sat w0 env' ph' st' a' w' → Agree st.has env env' ph ph' → (∀ k, st.has k = true → st'.has k = true) → k env' → Q .normal a' w') → wpList P ops Q l a w := by
  intro l
  induction l with
  | nil =>
    intro i w st st' a evs env ph hs h hk hK
    simp only [regionText, Option.some.injEq, Prod.mk.injEq] at h
    obtain ⟨rfl, rfl⟩ := h
    exact hK env ph a w hs agree_refl (fun _ h => h) hk
  | cons o l ih =>
    intro i w st st' a evs env ph hs h hk hK
    simp only [regionText] at h
    split at h
    · rename_i evs1 st1 h1
      split at h
      · rename_i evs2 st2 h2
        simp only [Option.some.injEq, Prod.mk.injEq] at h
        obtain ⟨rfl, rfl⟩ := h
        rw [evsHold_append] at hk
        exact opExec_sound (K := wpList P ops Q l) hs h1 hk hΓ fun env1 ph1 a1 w1 hst hk1 =>
          ih hst.sat h2 hk1 fun env' ph' a' w' hs' hag hm hk' => hK env' ph' a' w' hs' ⟨fun k hk => (hst.agree.e k hk).trans (hag.e k (hst.mono k hk)), fun k hk => (hst.agree.r k hk).trans (hag.r k (hst.mono k hk)), fun k hk => (hst.agree.v k hk).trans (hag.v k (hst.mono k hk))⟩
            (fun k hk => hm k (hst.mono k hk)) hk'
      · cases h
    · cases h

/-! ### A region that draws its order -/
/-- What the region does not write is as it was at its beginning. -/
def Kept (st0 : St) (env0 : Env) (ph0 : Ph) (W : List Nat) (wR w : World) : Prop :=
  (∀ b ∈ st0.blks, W.contains b.id = false → w.heap[ph0.r b.id]? = wR.heap[ph0.r b.id]?) ∧
  (∀ r ∈ st0.rows, W.contains r.id = false → r.g.den env0 = true → ∀ n, r.foot env0 ph0 = some n → w.heap[n]? = wR.heap[n]?)

theorem getBlk_mem' {st : St} {id : Nat} {b : Blk} (h : getBlk st id = some b) : b ∈ st.blks ∧ b.id = id := getBlk_mem h

theorem tryTake_spec {cfg : Cfg} {ops : Array Oper} {st0 st st' : St} {W : List Nat} {listed : Array Bool} {i : Nat} {evs : List Ev} : ∀ {is : List Nat}, tryTake P cfg ops st0 W listed st is = some (i, evs, st') →
    i ∈ is ∧ ∃ o G ns sv, ops[i]? = some o ∧ Region.free .any ops listed i = true ∧ guardOf ops st o = some G ∧ takeable P st0 W st G o.op = true ∧ qop P cfg.wrapm st G o.op = some (ns, sv) ∧ st.putS o.dst ⟨G, sv⟩ = some st' ∧ evs = needs G ns := by
  intro is
  induction is with
  | nil => intro h; simp [tryTake] at h
  | cons j is ih =>
    intro h
    simp only [tryTake] at h
    split at h
    · cases h
    · rename_i o ho
      split at h
      · rename_i hf
        split at h
        · obtain ⟨h1, h2⟩ := ih h; exact ⟨List.mem_cons_of_mem _ h1, h2⟩
        · rename_i G hg
          split at h
          · rename_i ht
            split at h
            · rename_i ns sv hq
              split at h
              · rename_i st1 hp
                simp only [Option.some.injEq, Prod.mk.injEq] at h
                obtain ⟨rfl, rfl, rfl⟩ := h
                exact ⟨List.mem_cons_self .., o, G, ns, sv, ho, hf, hg, ht, hq, hp, rfl⟩
              · cases h
            · obtain ⟨h1, h2⟩ := ih h; exact ⟨List.mem_cons_of_mem _ h1, h2⟩
          · obtain ⟨h1, h2⟩ := ih h; exact ⟨List.mem_cons_of_mem _ h1, h2⟩
      · obtain ⟨h1, h2⟩ := ih h; exact ⟨List.mem_cons_of_mem _ h1, h2⟩

/-- What a store writes is none of what is kept. -/
theorem kept_step {w0 wR w w' : World} {st0 st : St} {env0 : Env} {ph0 : Ph} {W : List Nat} {a : Act} {op : Op} (hs : Sat w0 env ph st a w) (hag : Agree st0.has env0 env ph0 ph) (hn0 : Scoped st0) (hk : Kept st0 env0 ph0 W wR w)
    (hst : storesIn W st op = true) (hkp : keeps st0 W st = true) (hg : w.grownBy w' (opW st ph op)) : Kept st0 env0 ph0 W wR w' := by
  simp only [keeps, Bool.and_eq_true, List.all_eq_true, Bool.or_eq_true, decide_eq_true_eq] at hkp
  obtain ⟨kb, kr⟩ := hkp
  have hb : ∀ b ∈ st0.blks, W.contains b.id = false → b ∈ st.blks ∧ ph.r b.id = ph0.r b.id := fun b hb hw => by
    refine ⟨(getBlk_mem ((kb b hb).resolve_left (by simpa using hw))).1, ?_⟩
    have := hn0.blks b hb
    simp only [Blk.all, Bool.and_eq_true] at this
    exact (hag.r _ this.1).symm
  have hr : ∀ r ∈ st0.rows, W.contains r.id = false → r ∈ st.rows ∧ r.foot env ph = r.foot env0 ph0 ∧ r.g.den env = r.g.den env0 := fun r hr hw => by
    have := hn0.rows r hr
    simp only [Row.all, Bool.and_eq_true] at this
    refine ⟨(getRow_mem ((kr r hr).resolve_left (by simpa using hw))).1, ?_, (BE.den_congr hag.e this.2.2).symm⟩
    unfold Row.foot
    rw [← hag.e _ this.2.1]
    simp only [Ph.val, ← hag.v _ this.1]
  -- the block that is written
  have key : ∀ n, opW st ph op = some n → (∃ b ∈ st.blks, W.contains b.id = true ∧ ph.r b.id = n) ∨ (∃ r ∈ st.rows, W.contains r.id = true ∧ r.own = true ∧ r.g.den env = true ∧ r.foot env ph = some n) := by
    have leaf : ∀ l n, storesTo W st l = true → (leafW ph l = some n ∨ (∃ row, l = .s row ∧ (ph.val row).ownBlock = some n)) → (∃ b ∈ st.blks, W.contains b.id = true ∧ ph.r b.id = n) ∨ (∃ r ∈ st.rows, W.contains r.id = true ∧ r.own = true ∧ r.g.den env = true ∧ r.foot env ph = some n) := by
      intro l n h1 h2
      have hrow : ∀ row, (W.contains row && (match getRow st row with | some r => r.own && decide (r.g = .c true) | none => false)) = true → (ph.val row).ownBlock = some n →
          (∃ r ∈ st.rows, W.contains r.id = true ∧ r.own = true ∧ r.g.den env = true ∧ r.foot env ph = some n) := fun row hc hn => by
        simp only [Bool.and_eq_true] at hc
        obtain ⟨hc1, hc2⟩ := hc
        cases hgr : getRow st row with
        | none => rw [hgr] at hc2; cases hc2
        | some r =>
          rw [hgr] at hc2
          simp only [Bool.and_eq_true, decide_eq_true_eq] at hc2
          obtain ⟨hm, rfl⟩ := getRow_mem hgr
          exact ⟨r, hm, hc1, hc2.1, by rw [hc2.2]; rfl, by simp [Row.foot, hc2.1, hn]⟩
      have hblk : ∀ id, (W.contains id && (getBlk st id).isSome) = true → ph.r id = n → (∃ b ∈ st.blks, W.contains b.id = true ∧ ph.r b.id = n) := fun id hc hn => by
        simp only [Bool.and_eq_true, Option.isSome_iff_exists] at hc
        obtain ⟨hc1, b, hb⟩ := hc
        obtain ⟨hm, rfl⟩ := getBlk_mem hb
        exact ⟨b, hm, hc1, hn⟩
      cases l with
      | p id off => exact .inl (hblk id h1 (by simpa [leafW] using h2))
      | pi id off sz m x => exact .inl (hblk id h1 (by simpa [leafW] using h2))
      | ep row sz x j => exact .inr (hrow row h1 (by simpa [leafW] using h2))
      | s row => exact .inr (hrow row h1 (by simpa [leafW] using h2))
      | i k e => simp [leafW] at h2
      | b e => simp [leafW] at h2
      | nils => simp [leafW] at h2
      | f g => simp [leafW] at h2
      | fn g caps => simp [leafW] at h2
    intro n hn
    unfold opW at hn
    unfold storesIn at hst
    split at hn
    · rename_i t x y
      simp only at hst
      cases hl : opndL st (.c true) x with
      | none => rw [hl] at hn; simp at hn
      | some l =>
        rw [hl] at hn hst
        exact leaf l n hst (.inl hn)
    · rename_i args argTypes
      simp only at hst
      split at hn
      · rename_i x xs hargs
        rw [hargs] at hst
        simp only at hst
        split at hn
        · rename_i row hl
          rw [hl] at hst
          exact leaf (.s row) n hst (.inr ⟨row, rfl, hn⟩)
        · cases hn
      · cases hn
    · cases hn
  refine ⟨fun b hb' hw => ?_, fun r hr' hw h1 n hn => ?_⟩
  · obtain ⟨hm, e⟩ := hb b hb' hw
    rw [← hk.1 b hb' hw, ← e]
    refine hg.block _ (hs.mem.lt_blk hm) fun he => ?_
    rcases key _ he.symm with ⟨b', hm', hw', e'⟩ | ⟨r', hm', hw', ho', hg', hf'⟩
    · exact hs.mem.bb b' hm' b hm (fun e => by rw [e, hw] at hw'; cases hw') e'
    · exact hs.mem.br b hm r' hm' hg' hf'
  · obtain ⟨hm, e1, e2⟩ := hr r hr' hw
    rw [← hk.2 r hr' hw h1 n hn]
    rw [← e1] at hn
    rw [← e2] at h1
    refine hg.block _ ((hs.mem.row r hm h1).foot_lt hn) fun he => ?_
    rcases key _ he.symm with ⟨b', hm', hw', e'⟩ | ⟨r', hm', hw', ho', hg', hf'⟩
    · exact hs.mem.br b' hm' r hm h1 (by rw [e']; exact hn)
    · exact hs.mem.rr r' hm' r hm (fun e => by rw [e, hw] at hw'; cases hw') ho' hg' h1 n hf' hn

end Go.Sx
