/- The symbolic executor: regions that draw their order. -/
import Derived.Test.YtjcomklheilfjaaSxE4
set_option linter.unusedVariables false
set_option linter.unusedSimpArgs false
namespace Go.Sx
open Go.RowKit

variable {env env' : Env} {ph ph' : Ph} {P : Program}

theorem take_same {wr : Bool} {w0 wR w w' : World} {st0 st : St} {env0 : Env} {ph0 : Ph} {W : List Nat} {G : BE} {a : Act} {op : Op} {ns : List BE} {sv : SV} (hs : Sat w0 env ph st a w) (hag : Agree st0.has env0 env ph0 ph) (hn0 : Scoped st0)
    (ht : takeable P st0 W st G op = true) (hq : qop P wr st G op = some (ns, sv)) (hG : G.den env = true) (hn : ∀ n ∈ ns, n.den env = true)
    (hk : Kept st0 env0 ph0 W wR w) (hk' : Kept st0 env0 ph0 W wR w') : ∀ k, opBlk st G ph op = some k → w'.heap[k]? = w.heap[k]? := by
  intro k hop
  unfold opBlk at hop
  split at hop
  · rename_i t x
    simp only [takeable] at ht
    simp only [qop] at hq
    cases hl : opndL st G x with
    | none => rw [hl] at hop; simp at hop
    | some l =>
      rw [hl] at hop ht hq
      simp only [Option.bind_some] at hop
      simp only at ht hq
      have hblk : ∀ id, (!W.contains id && st0.blks.any (fun b => b.id == id)) = true → k = ph.r id → w'.heap[k]? = w.heap[k]? := fun id hc he => by
        simp only [Bool.and_eq_true, Bool.not_eq_true', List.any_eq_true, beq_iff_eq] at hc
        obtain ⟨hc1, b, hb, rfl⟩ := hc
        have hnm := hn0.blks b hb
        simp only [Blk.all, Bool.and_eq_true] at hnm
        rw [he, ← hag.r _ hnm.1, hk.1 b hb hc1, hk'.1 b hb hc1]
      cases l with
      | p id off =>
        simp only [leafBlk, Option.some.injEq] at hop
        exact hblk id ht hop.symm
      | pi id off sz n y =>
        simp only [leafBlk, Option.some.injEq] at hop
        exact hblk id ht hop.symm
      | ep row sz i j =>
        simp only [leafBlk] at hop
        simp only [Bool.and_eq_true, Bool.not_eq_true', decide_eq_true_eq] at ht
        obtain ⟨hc1, hc2⟩ := ht
        simp only [loadQ, Option.map_eq_some_iff] at hq
        obtain ⟨⟨ns', v'⟩, hld, he⟩ := hq
        simp only [Prod.mk.injEq] at he
        obtain ⟨rfl, _⟩ := he
        split at hld
        · rename_i r hr
          split at hld
          · rename_i hc
            simp only [Bool.and_eq_true, decide_eq_true_eq] at hc
            have hpos : (env r.lv).list.length ≠ 0 := by
              split at hld
              · simp only [Option.some.injEq, Prod.mk.injEq] at hld
                obtain ⟨rfl, _⟩ := hld
                have h0 := le_den (hn _ (List.mem_cons_self ..))
                have h1 := lt_den (hn _ (List.mem_cons_of_mem _ (List.mem_cons_self ..)))
                simp only [IE.den] at h0 h1
                omega
              · unfold wideQ at hld
                split at hld
                · split at hld
                  · rename_i hw
                    simp only [Bool.and_eq_true, decide_eq_true_eq] at hw
                    simp only [Option.some.injEq, Prod.mk.injEq] at hld
                    obtain ⟨rfl, _⟩ := hld
                    have h0 := le_den (hn _ (List.mem_cons_self ..))
                    simp only [IE.den] at h0
                    omega
                  · cases hld
                · cases hld
            rw [hr] at hc2
            obtain ⟨hm, rfl⟩ := getRow_mem hc2.symm
            have hnm := hn0.rows r hm
            simp only [Row.all, Bool.and_eq_true] at hnm
            have hg0 : r.g.den env0 = true := by rw [BE.den_congr hag.e hnm.2.2]; exact BE.says_den hc.1 hG
            have hft : r.foot env0 ph0 = some k := by
              unfold Row.foot
              rw [hag.e _ hnm.2.1]
              rw [if_pos (by simp [hpos])]
              simp only [Ph.val, hag.v _ hnm.1]
              exact hop
            rw [hk.2 r hm hc1 hg0 k hft, hk'.2 r hm hc1 hg0 k hft]
          · cases hld
        · cases hld
      | i k e => cases ht
      | b e => cases ht
      | s row => cases ht
      | nils => cases ht
      | f g => cases ht
      | fn g caps => cases ht
  · cases hop

theorem kinds_length : ∀ {a : List CT} {x : List DV}, kinds a x = true → x.length = a.length := by
  intro a
  induction a with
  | nil => intro x h; cases x <;> simp_all [kinds]
  | cons c a ih => intro x h; cases x with
    | nil => simp [kinds] at h
    | cons d x => simp only [kinds, Bool.and_eq_true] at h; simp [ih h.2]

theorem agree_trans {st1 st2 : St} {e1 e2 e3 : Env} {p1 p2 p3 : Ph} (h : Agree st1.has e1 e2 p1 p2) (hm : ∀ k, st1.has k = true → st2.has k = true) (h' : Agree st2.has e2 e3 p2 p3) : Agree st1.has e1 e3 p1 p3 :=
  ⟨fun k hk => (h.e k hk).trans (h'.e k (hm k hk)), fun k hk => (h.r k hk).trans (h'.r k (hm k hk)), fun k hk => (h.v k hk).trans (h'.v k (hm k hk))⟩

/-! ### Events in another order -/
theorem LOp.den_congr {p : Nat → Bool} {env env' : Env} (h : ∀ k, p k = true → env k = env' k) {op : LOp} (ha : op.all p = true) : op.den env = op.den env' := by
  cases op with
  | lit rows =>
    simp only [LOp.all, List.all_eq_true] at ha
    simp only [LOp.den]
    refine List.map_congr_left fun r hr => List.map_congr_left fun e he => IE.den_congr h (ha r hr e he)
  | app a b => simp only [LOp.all, Bool.and_eq_true] at ha; simp only [LOp.den, h a ha.1, h b ha.2]
  | set a i j x => simp only [LOp.all, Bool.and_eq_true] at ha; simp only [LOp.den, h a ha.1, IE.den_congr h ha.2.1, IE.den_congr h ha.2.2]
  | setr a i xs =>
    simp only [LOp.all, Bool.and_eq_true, List.all_eq_true] at ha
    simp only [LOp.den, h a ha.1, IE.den_congr h ha.2.1]
    congr 1
    funext _
    exact List.map_congr_left fun e he => IE.den_congr h (ha.2.2 e he)
  | take a n => simp only [LOp.all, Bool.and_eq_true] at ha; simp only [LOp.den, h a ha.1, IE.den_congr h ha.2]
  | rep n row => simp only [LOp.all] at ha; simp only [LOp.den, IE.den_congr h ha]
  | cp a => simp only [LOp.all] at ha; simp only [LOp.den, h a ha]
theorem DE.den_congr {p : Nat → Bool} {env env' : Env} (h : ∀ k, p k = true → env k = env' k) {d : DE} (ha : d.all p = true) : d.den env = d.den env' := by
  cases d with
  | i e => simp only [DE.all] at ha; simp only [DE.den, IE.den_congr h ha]
  | b e => simp only [DE.all] at ha; simp only [DE.den, BE.den_congr h ha]
  | l k => simp only [DE.all] at ha; simp only [DE.den, h k ha]
  | nil => rfl
  | rows es => simp only [DE.all, List.all_eq_true] at ha; simp only [DE.den]; congr 1; exact List.map_congr_left fun e he => by rw [IE.den_congr h (ha e he)]

theorem set_other {env : Env} {id : Nat} {d : DV} : ∀ k, decide (k ≠ id) = true → env k = env.set id d k := fun k hk => by
  simp only [ne_eq, decide_eq_true_eq] at hk
  simp [Env.set, hk]

theorem sets_get (env : Env) (base : Nat) (ds : List DV) (k : Nat) : env.sets base ds k = if base ≤ k then (match ds[k - base]? with | some d => d | none => env k) else env k := by
  by_cases h : base ≤ k
  · rw [if_pos h]
    cases hd : ds[k - base]? with
    | some d => have := Env.sets_in (env := env) (k := base) hd; rw [show base + (k - base) = k by omega] at this; exact this
    | none => exact Env.sets_ge (by have := List.getElem?_eq_none_iff.1 hd; omega)
  · rw [if_neg h]; exact Env.sets_lt (by omega)

theorem evs_swap {Γ : Known} {k : Env → Prop} {es : List Ev} {e e2 : Ev} (hp : mayPass e e2 = true) (h : evsHold Γ (e2 :: e :: es) k env) : evsHold Γ (e :: e2 :: es) k env := by
  unfold mayPass at hp
  split at hp
  · rename_i id op
    split at hp
    · rename_i f g args res base
      simp only [Bool.and_eq_true, Bool.or_eq_true, decide_eq_true_eq, List.all_eq_true] at hp
      obtain ⟨ho, hid, hg, ha⟩ := hp
      obtain ⟨c, h1, h2, h3⟩ := h
      have eg : ∀ d, g.den (env.set id d) = g.den env := fun d => (BE.den_congr set_other hg).symm
      have ea : ∀ d, args.map (DE.den (env.set id d)) = args.map (DE.den env) := fun d => List.map_congr_left fun x hx => (DE.den_congr set_other (ha x hx)).symm
      refine ⟨c, h1, fun hgt => ?_, fun rs hk hr => ?_⟩
      · have := h2 (by rw [eg]; exact hgt)
        rw [ea] at this
        exact this
      · have := h3 rs hk (fun hgt => by rw [ea]; exact hr (by rw [← eg]; exact hgt))
        have hl := kinds_length hk
        have e1 : op.den (env.sets base rs) = op.den env := (LOp.den_congr (p := fun k => decide (k < base) || decide (base + (cts res).length ≤ k)) (fun k hk => by
          simp only [Bool.or_eq_true, decide_eq_true_eq] at hk
          rcases hk with hk | hk
          · exact (Env.sets_lt hk).symm
          · exact (Env.sets_ge (by omega)).symm) ho).symm
        have e2 : (env.set id (.l (op.den env))).sets base rs = (env.sets base rs).set id (.l (op.den env)) := by
          funext j
          simp only [sets_get, Env.set]
          by_cases hj : j = id
          · subst hj
            simp only [if_true]
            split
            · rw [List.getElem?_eq_none (by omega)]
            · rfl
          · simp only [hj, if_false]
        show evsHold Γ es k ((env.sets base rs).set id (.l (op.den (env.sets base rs))))
        rw [e1, ← e2]
        exact this
    · rename_i p
      obtain ⟨h1, h2⟩ := h
      exact ⟨by rw [BE.den_congr (set_other (id := id) (d := .l (op.den env))) hp]; exact h1, h2⟩
    · rename_i id' op'
      simp only [Bool.and_eq_true, decide_eq_true_eq] at hp
      obtain ⟨hid, ho, ho'⟩ := hp
      have e1 : op.den (env.set id' (.l (op'.den env))) = op.den env := (LOp.den_congr set_other ho).symm
      have e2 : op'.den (env.set id (.l (op.den env))) = op'.den env := (LOp.den_congr set_other ho').symm
      show evsHold Γ es k ((env.set id' (.l (op'.den env))).set id (.l (op.den (env.set id' (.l (op'.den env))))))
      have h : evsHold Γ es k ((env.set id (.l (op.den env))).set id' (.l (op'.den (env.set id (.l (op.den env)))))) := h
      rw [e2] at h
      rw [e1]
      have e3 : (env.set id (.l (op.den env))).set id' (.l (op'.den env)) = (env.set id' (.l (op'.den env))).set id (.l (op.den env)) := by
        funext j
        simp only [Env.set]
        by_cases h1 : j = id
        · have h2 : ¬ j = id' := by omega
          rw [if_neg h2, if_pos h1, if_pos h1]
        · rw [if_neg h1]
          simp only [h1, if_false]
      rw [← e3]
      exact h
  · cases hp

theorem insE_holds {Γ : Known} {k : Env → Prop} : ∀ {es : List Ev} {e : Ev} {env : Env}, evsHold Γ (insE e es) k env → evsHold Γ (e :: es) k env := by
  intro es
  induction es with
  | nil => intro e env h; exact h
  | cons e2 es ih =>
    intro e env h
    simp only [insE] at h
    split at h
    · rename_i hp
      refine evs_swap hp ?_
      have : ∀ env', evsHold Γ (insE e es) k env' → evsHold Γ (e :: es) k env' := fun env' h => ih h
      cases e2 with
      | need p => exact ⟨h.1, this _ h.2⟩
      | call f g args res base =>
        obtain ⟨c, h1, h2, h3⟩ := h
        exact ⟨c, h1, h2, fun rs hk hr => this _ (h3 rs hk hr)⟩
      | letl id op => exact this _ h
    · exact h

theorem evs_mono {Γ : Known} {k k' : Env → Prop} (hk : ∀ env, k env → k' env) : ∀ {es : List Ev} {env : Env}, evsHold Γ es k env → evsHold Γ es k' env := by
  intro es
  induction es with
  | nil => intro env h; exact hk env h
  | cons e es ih =>
    intro env h
    cases e with
    | need p => exact ⟨h.1, ih h.2⟩
    | call f g args res base =>
      obtain ⟨c, h1, h2, h3⟩ := h
      exact ⟨c, h1, h2, fun rs a b => ih (h3 rs a b)⟩
    | letl id op => exact ih (env := env.set id (.l (op.den env))) h

theorem canon_holds {Γ : Known} {k : Env → Prop} : ∀ {es : List Ev} {env : Env}, evsHold Γ (canonEvs es) k env → evsHold Γ es k env := by
  intro es
  induction es with
  | nil => intro env h; exact h
  | cons e es ih =>
    intro env h
    have h := insE_holds h
    cases e with
    | need p => exact ⟨h.1, ih h.2⟩
    | call f g args res base =>
      obtain ⟨c, h1, h2, h3⟩ := h
      exact ⟨c, h1, h2, fun rs a b => ih (h3 rs a b)⟩
    | letl id op => exact ih (env := env.set id (.l (op.den env))) h

/-- What is asked of the region's end. -/
def Done (w0 : World) (env : Env) (ph : Ph) (st st' : St) (k : Env → Prop) (G : Act → World → Prop) : Prop :=
  ∀ env' ph' a' w', Sat w0 env' ph' st' a' w' → Agree st.has env env' ph ph' → (∀ k, st.has k = true → st'.has k = true) → k env' → G a' w'

section
variable {Γ : Known} {cfg : Cfg} {ops : Array Oper} {base : Nat} {w0 wR : World} {st0 : St} {env0 : Env} {ph0 : Ph} {W : List Nat} {k : Env → Prop} {G : Act → World → Prop}

/-- A state's outcome is right. -/
def SndE (P : Program) (Γ : Known) (ops : Array Oper) (w0 wR : World) (st0 : St) (env0 : Env) (ph0 : Ph) (W : List Nat) (k : Env → Prop) (G : Act → World → Prop) (n : Nat) (listed : Array Bool) (st : St) (evs : List Ev) (st' : St) : Prop :=
  ∀ (w : World) (a : Act) (env : Env) (ph : Ph), Sat w0 env ph st a w → Agree st0.has env0 env ph0 ph → (∀ k, st0.has k = true → st.has k = true) → Kept st0 env0 ph0 W wR w → evsHold Γ evs k env → Done w0 env ph st st' k G →
    wpAnyH P .any ops (fun e a w => e = .normal ∧ G a w) (Kept st0 env0 ph0 W wR) n listed a w
def SndT (P : Program) (Γ : Known) (ops : Array Oper) (w0 wR : World) (st0 : St) (env0 : Env) (ph0 : Ph) (W : List Nat) (k : Env → Prop) (G : Act → World → Prop) (T : Memo) : Prop :=
  ∀ n c l st r, (n, c, l, st, r) ∈ T → ∀ listed : Array Bool, listed.toList = l → SndE P Γ ops w0 wR st0 env0 ph0 W k G n listed st r.1 r.2

theorem lookM_spec {n c : Nat} {l : List Bool} {st : St} {r : List Ev × St} : ∀ {T : Memo}, lookM n c l st T = some r → ∃ c', (n, c', l, st, r) ∈ T := by
  intro T
  induction T with
  | nil => intro h; simp [lookM] at h
  | cons e T ih =>
    obtain ⟨n', c', l', st1, r'⟩ := e
    intro h
    simp only [lookM] at h
    split at h
    · rename_i hc
      simp only [Bool.and_eq_true, decide_eq_true_eq] at hc
      obtain ⟨⟨_, hn⟩, rfl, rfl⟩ := hc
      have hn := Nat.eq_of_beq_eq_true hn
      simp only [Option.some.injEq] at h
      subst hn h
      exact ⟨c', List.mem_cons_self ..⟩
    · obtain ⟨c'', h⟩ := ih h
      exact ⟨c'', List.mem_cons_of_mem _ h⟩

theorem explore_sound (hΓ : KnownOk P Γ cfg) (hsel : Region.noSelect ops = true) (hn0 : Scoped st0) :
    ∀ {n : Nat} {listed : Array Bool} {st : St} {T T' : Memo} {r : List Ev × St}, SndT P Γ ops w0 wR st0 env0 ph0 W k G T → explore P cfg ops st0 W base n listed st T = some (r, T') →
      SndT P Γ ops w0 wR st0 env0 ph0 W k G T' ∧ SndE P Γ ops w0 wR st0 env0 ph0 W k G n listed st r.1 r.2 := by
  intro n
  induction n with
  | zero =>
    intro listed st T T' r hT h
    simp only [explore] at h
    split at h
    · rename_i hr
      simp only [Option.some.injEq, Prod.mk.injEq] at h
      obtain ⟨rfl, rfl⟩ := h
      exact ⟨hT, fun w a env ph hs hag hm hk hev hd => ⟨hr, rfl, hd env ph a w hs agree_refl (fun _ h => h) hev⟩⟩
    · cases h
  | succ n ih =>
    intro listed st T T' r hT h
    unfold explore at h
    split at h
    · rename_i hr
      simp only [Option.some.injEq, Prod.mk.injEq] at h
      obtain ⟨rfl, rfl⟩ := h
      exact ⟨hT, fun w a env ph hs hag hm hk hev hd => wpAnyH_done hr ⟨rfl, hd env ph a w hs agree_refl (fun _ h => h) hev⟩ _⟩
    · rename_i r0 rs hr
      split at h
      · -- one is taken first
        rename_i i evs1 st1 htk
        split at h
        · rename_i evs2 st2 T1 hex
          simp only [Option.some.injEq, Prod.mk.injEq] at h
          obtain ⟨rfl, rfl⟩ := h
          obtain ⟨hT1, hE⟩ := ih hT hex
          refine ⟨hT1, fun w a env ph hs hag hm hk hev hd => ?_⟩
          obtain ⟨hi, o, G', ns, sv, ho, hfree, hg, htake, hq, hput, rfl⟩ := tryTake_spec htk
          simp only at hev
          rw [evsHold_append] at hev
          obtain ⟨hev, hn⟩ := needs_spec hev
          obtain ⟨hall, rfl⟩ := putS_spec hput
          have hst := put_step (v := (⟨G', sv⟩ : Slot).den env ph) hs hall (dst := o.dst) rfl
          refine wpAnyH_take (v := (⟨G', sv⟩ : Slot).den env ph) ho hsel hfree (by rw [hr]; simpa using hi) (fun c a w h => absurd h.1 (by simp)) ?_ hk ?_
          · unfold YieldsIf
            rw [guardOf_spec hg hs.tmps]
            cases hG : G'.den env
            · exact .inr ⟨rfl, by simp [Slot.den, hG]⟩
            · refine .inl ⟨rfl, fun w' hk' => ?_⟩
              simp only [Slot.den, hG, if_true]
              exact qop_run hq hG (hn hG) hs.tmps hs.mem (take_same hs hag hn0 htake hq hG (hn hG) hk hk')
          · exact hE _ _ _ _ hst.sat hag (fun k hk => hst.mono k (hm k hk)) hk hev (fun env' ph' a' w' hs' hag' hm' hk' => hd env' ph' a' w' hs' (agree_trans hst.agree hst.mono hag') (fun k hk => hm' k (hst.mono k hk)) hk')
        · cases h
      · -- whichever comes up
        split at h
        · rename_i x hl
          simp only [Option.some.injEq, Prod.mk.injEq] at h
          obtain ⟨rfl, rfl⟩ := h
          obtain ⟨c', hm⟩ := lookM_spec hl
          exact ⟨hT, hT _ _ _ _ _ hm listed rfl⟩
        · have one : ∀ i T T' y, SndT P Γ ops w0 wR st0 env0 ph0 W k G T → goWith P cfg ops st0 W base st (fun i st' T => explore P cfg ops st0 W base n (listed.setIfInBounds i true) st' T) i T = some (y, T') →
              SndT P Γ ops w0 wR st0 env0 ph0 W k G T' ∧ ∀ (w : World) (a : Act) (env : Env) (ph : Ph), Sat w0 env ph st a w → Agree st0.has env0 env ph0 ph → (∀ k, st0.has k = true → st.has k = true) → Kept st0 env0 ph0 W wR w → evsHold Γ y.1 k env → Done w0 env ph st y.2 k G →
                wpOp P ops (fun e a w => e = .normal ∧ G a w) i (fun a' w' => Kept st0 env0 ph0 W wR w' ∧ wpAnyH P .any ops (fun e a w => e = .normal ∧ G a w) (Kept st0 env0 ph0 W wR) n (listed.setIfInBounds i true) a' w') a w := by
            intro i T T' y hT hi
            unfold goWith at hi
            split at hi
            · cases hi
            · rename_i o ho
              split at hi
              · rename_i hc
                simp only [Bool.and_eq_true] at hc
                split at hi
                · rename_i evs1 st1 hop
                  split at hi
                  · rename_i evs2 st2 T1 hex
                    simp only [Option.some.injEq, Prod.mk.injEq] at hi
                    obtain ⟨rfl, rfl⟩ := hi
                    obtain ⟨hT1, hE⟩ := ih hT hex
                    refine ⟨hT1, fun w a env ph hs hag hm hk hev hd => ?_⟩
                    have hev := canon_holds hev
                    rw [evsHold_append] at hev
                    have := opExec_sound (ops := ops) (Q := fun e a w => e = .normal ∧ G a w) (K := fun a' w' => Kept st0 env0 ph0 W wR w' ∧ wpAnyH P .any ops (fun e a w => e = .normal ∧ G a w) (Kept st0 env0 ph0 W wR) n (listed.setIfInBounds i true) a' w') hs hop hev hΓ (fun env1 ph1 a1 w1 hst hk1 => by
                      have hkn := kept_step hs hag hn0 hk hc.1 hc.2 hst.grown
                      exact ⟨hkn, hE _ _ _ _ hst.sat (agree_trans hag hm hst.agree) (fun k hk => hst.mono k (hm k hk)) hkn hk1 (fun env' ph' a' w' hs' hag' hm' hk' => hd env' ph' a' w' hs' (agree_trans hst.agree hst.mono hag') (fun k hk => hm' k (hst.mono k hk)) hk')⟩)
                    unfold opK at this
                    unfold wpOp
                    simp only [ho]
                    exact this
                  · cases hi
                · cases hi
              · cases hi
          split at h
          · rename_i x T1 hgo
            obtain ⟨hT1, h1⟩ := one _ _ _ _ hT hgo
            split at h
            · rename_i T2 hall
              simp only [Option.some.injEq, Prod.mk.injEq] at h
              obtain ⟨rfl, rfl⟩ := h
              have others : ∀ (is : List Nat) (T T' : Memo), SndT P Γ ops w0 wR st0 env0 ph0 W k G T → goAll (goWith P cfg ops st0 W base st (fun i st' T => explore P cfg ops st0 W base n (listed.setIfInBounds i true) st' T)) x is T = some T' →
                  SndT P Γ ops w0 wR st0 env0 ph0 W k G T' ∧ ∀ i ∈ is, ∀ (w : World) (a : Act) (env : Env) (ph : Ph), Sat w0 env ph st a w → Agree st0.has env0 env ph0 ph → (∀ k, st0.has k = true → st.has k = true) → Kept st0 env0 ph0 W wR w → evsHold Γ x.1 k env → Done w0 env ph st x.2 k G →
                    wpOp P ops (fun e a w => e = .normal ∧ G a w) i (fun a' w' => Kept st0 env0 ph0 W wR w' ∧ wpAnyH P .any ops (fun e a w => e = .normal ∧ G a w) (Kept st0 env0 ph0 W wR) n (listed.setIfInBounds i true) a' w') a w := by
                intro is
                induction is with
                | nil => intro T T' hT h; simp only [goAll, Option.some.injEq] at h; subst h; exact ⟨hT, fun i hi => by simp at hi⟩
                | cons i is ihs =>
                  intro T T' hT h
                  simp only [goAll] at h
                  split at h
                  · rename_i y T1' hgo'
                    split at h
                    · rename_i hy
                      subst hy
                      obtain ⟨hT1', h1'⟩ := one _ _ _ _ hT hgo'
                      obtain ⟨hT2, h2⟩ := ihs _ _ hT1' h
                      exact ⟨hT2, fun j hj => by
                        rcases List.mem_cons.1 hj with rfl | hj
                        · exact h1'
                        · exact h2 j hj⟩
                    · cases h
                  · cases h
              obtain ⟨hT2, h2⟩ := others _ _ _ hT1 hall
              have hE : SndE P Γ ops w0 wR st0 env0 ph0 W k G (n + 1) listed st x.1 x.2 := by
                intro w a env ph hs hag hm hk hev hd
                refine wpAnyH_all hr (by simp) fun i hi => ?_
                rcases List.mem_cons.1 hi with rfl | hi
                · exact h1 w a env ph hs hag hm hk hev hd
                · exact h2 i hi w a env ph hs hag hm hk hev hd
              refine ⟨fun n' c l st1 r hmem listed' hl => ?_, hE⟩
              rcases List.mem_cons.1 hmem with he | hmem
              · simp only [Prod.mk.injEq] at he
                obtain ⟨rfl, rfl, rfl, rfl, rfl⟩ := he
                rw [Array.toList_inj.1 hl]
                exact hE
              · exact hT2 _ _ _ _ _ hmem listed' hl
            · cases h
          · cases h
end

/-- A region. -/
theorem regionExec_sound {Γ : Known} {cfg : Cfg} {ops : Array Oper} {id : Nat} {draw : Bool} {w0 w : World} {st st' : St} {a : Act} {evs : List Ev} {k : Env → Prop} {G : Act → World → Prop} (hΓ : KnownOk P Γ cfg) (hs : Sat w0 env ph st a w)
    (h : regionExec P cfg ops draw st = some (evs, st')) (hev : evsHold Γ evs k env) (hd : ∀ env' ph' a' w', Sat w0 env' ph' st' a' w' → Agree st.has env env' ph ph' → st.next ≤ st'.next → st'.dom = [] → k env' → G a' w') :
    (Code.region id ops draw).wp P (fun e a w => e = .normal ∧ G a w) a w := by
  unfold regionExec at h
  split at h
  · rename_i evs1 st1 hbody
    split at h
    · rename_i hc
      simp only [Bool.and_eq_true, decide_eq_true_eq] at hc
      obtain ⟨hdb, hnx⟩ := hc
      simp only [Option.some.injEq, Prod.mk.injEq] at h
      obtain ⟨rfl, rfl⟩ := h
      have hmono : ∀ k, st1.has k = true → ({ st1 with next := st.next + ops.size * stride, dom := [] } : St).has k = true := fun k hk => by
        simp only [St.has, Bool.or_eq_true, decide_eq_true_eq, List.any_eq_true, Bool.and_eq_true] at hk
        simp only [domBelow, List.all_eq_true, decide_eq_true_eq] at hdb
        simp only [St.has, Bool.or_eq_true, decide_eq_true_eq]
        refine .inl ?_
        rcases hk with hk | ⟨d, hd1, _, hd2⟩
        · omega
        · have := hdb d hd1
          omega
      have fin : Done w0 env ph st st1 k G := fun env' ph' a' w' hs' hag hm hk' =>
        hd env' ph' a' w' ⟨hs'.tmps, hs'.mem, hs'.below, hs'.defers, ⟨fun t s ht => Slot.all_mono hmono (hs'.names.tmps t s ht), fun b hb => Blk.all_mono hmono (hs'.names.blks b hb), fun r hr => Row.all_mono hmono (hs'.names.rows r hr)⟩⟩ hag (Nat.le_add_right _ _) rfl hk'
      split at hbody
      · rename_i hdr
        subst hdr
        split at hbody
        · rename_i hc2
          simp only [Bool.and_eq_true] at hc2
          split at hbody
          · rename_i W hW
            refine wp_region_held (S := Kept st env ph W { w with drawn := w.drawn + 1 }) hc2.2 ?_
            have hs' : Sat w0 env ph st a { w with drawn := w.drawn + 1 } := by
              refine ⟨hs.tmps, ?_, ⟨hs.below.os, hs.below.tape, hs.below.output, hs.below.size, hs.below.block⟩, hs.defers, hs.names⟩
              have hg : w.grownBy { w with drawn := w.drawn + 1 } none := ⟨rfl, rfl, rfl, Nat.le_refl _, fun _ _ _ => rfl⟩
              exact hs.mem.grown hg
            simp only [Option.map_eq_some_iff] at hbody
            obtain ⟨⟨r1, T1⟩, hex, hr1⟩ := hbody
            simp only at hr1
            subst hr1
            exact (explore_sound (k := k) (G := G) hΓ hc2.1 hs.names (fun n c l st r h => by simp at h) hex).2 _ _ _ _ hs' agree_refl (fun _ h => h) ⟨fun _ _ _ => rfl, fun _ _ _ _ _ _ => rfl⟩ hev fin
          · cases hbody
        · cases hbody
      · rename_i hdr
        have : draw = false := by simpa using hdr
        subst this
        exact wp_region_list (regionText_sound (Q := fun e a w => e = .normal ∧ G a w) hΓ hs hbody hev fun env' ph' a' w' hs' hag hm hk' => ⟨rfl, fin env' ph' a' w' hs' hag hm hk'⟩)
    · cases h
  · cases h

end Go.Sx
