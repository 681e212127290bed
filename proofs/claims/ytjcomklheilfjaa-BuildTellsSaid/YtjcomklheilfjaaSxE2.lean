/- The symbolic executor: calls. -/
import Derived.Test.YtjcomklheilfjaaSxE1
set_option linter.unusedVariables false
set_option linter.unusedSimpArgs false
namespace Go.Sx
open Go.RowKit

variable {env env' : Env} {ph ph' : Ph} {P : Program}

def Ph.setVs (ph : Ph) (key : Nat) (cvs : List Value) : Ph :=
  { ph with v := fun k => if key ≤ k then (match cvs[k - key]? with
    | some (.slice a b c) => (a, b, c)
    | _ => ph.v k) else ph.v k }

theorem setVs_val {ph : Ph} {key i : Nat} {cvs : List Value} {a : Option Addr} {b c : Nat} (h : cvs[i]? = some (.slice a b c)) : (ph.setVs key cvs).val (key + i) = .slice a b c := by
  simp [Ph.val, Ph.setVs, h]

theorem ownsRow_base {w : World} {B B' : Nat} {e : TypeId} {sz : Nat} {v : Value} {n : Nat} {xs : List Value} (h : w.ownsRow B' e sz v n xs) (hb : B ≤ B') : w.ownsRow B e sz v n xs := by
  obtain ⟨h1, h2 | ⟨g, cap, cur, e1, e2, e3⟩⟩ := h
  · exact ⟨h1, .inl h2⟩
  · exact ⟨h1, .inr ⟨g, cap, cur, e1, Nat.le_trans hb e2, e3⟩⟩

theorem packV_den {vs : List V1} : (packV vs).den env ph = packed (vs.map (V1.den env ph)) := by
  match vs with
  | [] => rfl
  | [v] => rfl
  | _ :: _ :: _ => rfl

theorem packV_all {q : Nat → Bool} {G : BE} {vs : List V1} (hG : G.all q = true) (h : v1sAll q vs = true) : (⟨G, packV vs⟩ : Slot).all q = true := by
  match vs with
  | [] => simp [Slot.all, hG, packV, SV.all, v1sAll]
  | [v] => simpa [Slot.all, hG, packV, SV.all, v1sAll] using h
  | _ :: _ :: _ => simpa [Slot.all, hG, packV, SV.all] using h

/-- A call has come back. -/
theorem call_sat {w0 w w' : World} {st : St} {a : Act} {key : Nat} {G : BE} {res : List VT} {cvs : List Value} {rds : List DV} {dst : Option Tmp} (h : Sat w0 env ph st a w) (hfree : st.free key (width res) = true) (hG : G.all st.has = true)
    (hGt : G.den env = true) (hb : Below w.heap.size w w') (hf : fitAll (ownsR w' w.heap.size) (cts res) cvs rds) (hap : apartVals cvs) :
    Step w0 env (env.sets key rds) ph (ph.setVs key cvs) st ({ st.claim key (width res) with rows := insRows (freshV1s G key res).2 st.rows }.put dst ⟨G, packV (freshV1s G key res).1⟩) (a.put dst (packed (mkVals res cvs))) w w' none := by
  obtain ⟨hl1, hl2⟩ := fitAll_len hf
  have hw : width res = (cts res).length := rfl
  have hout : ∀ k, st.has k = true → k < key ∨ key + (cts res).length ≤ k := fun k hk => by
    rcases Nat.lt_or_ge k key with h1 | h1
    · exact .inl h1
    · rcases Nat.lt_or_ge k (key + (cts res).length) with h2 | h2
      · rw [free_not_has hfree h1 h2] at hk; cases hk
      · exact .inr h2
  have hag : Agree st.has env (env.sets key rds) ph (ph.setVs key cvs) := by
    refine ⟨fun k hk => ?_, fun _ _ => rfl, fun k hk => ?_⟩
    · rcases hout k hk with h1 | h1
      · rw [Env.sets_lt h1]
      · rw [Env.sets_ge (by omega)]
    · rcases hout k hk with h1 | h1
      · simp only [Ph.setVs]; rw [if_neg (by omega)]
      · simp only [Ph.setVs]
        rw [if_pos (by omega), List.getElem?_eq_none (by omega)]
  have hs' := h.congr hag
  have hG' : G.den (env.sets key rds) = true := by rw [← BE.den_congr hag.e hG]; exact hGt
  obtain ⟨e1, e2⟩ := fresh_spec (env := env.sets key rds) (ph := ph.setVs key cvs) G (cts res) key cvs rds hf (fun i d hd => Env.sets_in hd) (fun i v hv e ks hc => by
    obtain ⟨v', d, hv', hd, hfit⟩ := fitAll_get hf hc
    rw [hv] at hv'
    simp only [Option.some.injEq] at hv'
    subst hv'
    cases d with
    | i n => simp [fit1] at hfit
    | b x => simp [fit1] at hfit
    | l xs =>
      obtain ⟨_, ho⟩ := hfit
      obtain ⟨sl, rfl⟩ := own_slice ho
      exact setVs_val hv)
  rw [← freshV1s_rows] at e2
  have hden := freshV1s_den (env := env.sets key rds) (ph := ph.setVs key cvs) G res key cvs e1
  have hmono : ∀ k, st.has k = true → (st.claim key (width res)).has k = true := fun k hk => has_mono hk
  have hnew : ∀ i, i < (cts res).length → (st.claim key (width res)).has (key + i) = true := fun i hi => has_new (by omega) (by rw [hw]; omega)
  have hall := freshLeaves_all (q := (st.claim key (width res)).has) G (BE.all_mono hmono hG) (cts res) key hnew
  have hgr : w.grownBy w' none := grownBy_of_below hb
  have hB : w0.heap.size ≤ w.heap.size := h.below.size
  -- the new rows
  have hnr : ∀ r ∈ (freshV1s G key res).2, ∃ i : Nat, i < (cts res).length ∧ r.id = key + i ∧ r.own = true ∧ cvs[i]? = some ((ph.setVs key cvs).val r.id) ∧ RowOk w0.heap.size (env.sets key rds) (ph.setVs key cvs) r w' ∧ ∀ k, r.foot (env.sets key rds) (ph.setVs key cvs) = some k → ((ph.setVs key cvs).val r.id).ownBlock = some k ∧ w.heap.size ≤ k := by
    intro r hr
    obtain ⟨i, hi, hreq, hcv, hR⟩ := e2 r hr
    obtain ⟨h0, ho⟩ := hR
    have hown : r.own = true := by rw [hreq]
    refine ⟨i, hi, by rw [hreq], hown, hcv, ⟨h0, ?_⟩, fun k hk => ?_⟩
    · rw [if_pos hown]; exact ownsRow_base ho hB
    · have hk' : ((ph.setVs key cvs).val r.id).ownBlock = some k := by simpa [Row.foot, hown] using hk
      exact ⟨hk', (ho.lt k hk').1⟩
  have hold : ∀ r ∈ st.rows, r.g.den (env.sets key rds) = true → ∀ k, r.foot (env.sets key rds) (ph.setVs key cvs) = some k → k < w.heap.size := fun r hr h1 k hk => (hs'.mem.row r hr h1).foot_lt hk
  refine ⟨⟨?_, ?_, h.below.grown hgr h.below.size (fun k hk => by cases hk), by rw [act_put_defers]; exact h.defers, ?_⟩, hag, hgr, fun k hk => by rw [has_put]; exact hmono k hk⟩
  · refine put_ok (st := { st.claim key (width res) with rows := insRows (freshV1s G key res).2 st.rows }) hs'.tmps ?_
    simp only [Slot.den, hG', if_true, packV_den, hden]
  · rw [put_blks, put_rows]
    have hk := hs'.mem.grown hgr
    refine ⟨hk.blk, hk.bb, fun r hr h1 => ?_, fun b hb r hr h1 => ?_, fun r hr r' hr' hne ho h1 h2 k hk1 hk2 => ?_⟩
    · rcases mem_insRows.1 hr with hr | hr
      · obtain ⟨_, _, _, _, _, hok, _⟩ := hnr r hr
        exact hok
      · exact hk.row r hr h1
    · rcases mem_insRows.1 hr with hr | hr
      · obtain ⟨_, _, _, _, _, _, hft⟩ := hnr r hr
        intro e
        have := (hft _ e).2
        have := h.mem.lt_blk hb
        have e3 : (ph.setVs key cvs).r b.id = ph.r b.id := rfl
        omega
      · exact hk.br b hb r hr h1
    · rcases mem_insRows.1 hr with hr | hr <;> rcases mem_insRows.1 hr' with hr' | hr'
      · obtain ⟨i, _, hid, _, hcv, _, hft⟩ := hnr r hr
        obtain ⟨i', _, hid', _, hcv', _, hft'⟩ := hnr r' hr'
        exact hap i i' _ _ (fun e => hne (by rw [hid, hid', e])) hcv hcv' k (hft k hk1).1 (hft' k hk2).1
      · obtain ⟨_, _, _, _, _, _, hft⟩ := hnr r hr
        have := (hft k hk1).2
        have := hold r' hr' h2 k hk2
        omega
      · obtain ⟨_, _, _, _, _, _, hft⟩ := hnr r' hr'
        have := (hft k hk2).2
        have := hold r hr h1 k hk1
        omega
      · exact hk.rr r hr r' hr' hne ho h1 h2 k hk1 hk2
  · refine ⟨?_, ?_, ?_⟩
    · exact put_known (st := { st.claim key (width res) with rows := insRows (freshV1s G key res).2 st.rows }) (fun t s ht => Slot.all_mono hmono (h.names.tmps t s ht)) (packV_all (BE.all_mono hmono hG) (freshV1s_all G (BE.all_mono hmono hG) res key hnew))
    · rw [put_blks, has_put]
      exact fun b hb => Blk.all_mono hmono (h.names.blks b hb)
    · rw [put_rows, has_put]
      intro r hr
      rcases mem_insRows.1 hr with hr | hr
      · rw [freshV1s_rows] at hr
        exact hall.2 r hr
      · exact Row.all_mono hmono (h.names.rows r hr)

/-- A call that is not carried out. -/
theorem nocall_sat {w0 w : World} {st : St} {a : Act} {key : Nat} {G : BE} {res : List VT} {rds : List DV} {dst : Option Tmp} (h : Sat w0 env ph st a w) (hfree : st.free key (width res) = true) (hG : G.all st.has = true)
    (hGf : G.den env = false) (hl : rds.length = (cts res).length) :
    Step w0 env (env.sets key rds) ph ph st ({ st.claim key (width res) with rows := insRows (freshV1s G key res).2 st.rows }.put dst ⟨G, packV (freshV1s G key res).1⟩) (a.put dst undef) w w none := by
  have hw : width res = (cts res).length := rfl
  have hag : Agree st.has env (env.sets key rds) ph ph := by
    refine ⟨fun k hk => ?_, fun _ _ => rfl, fun k hk => rfl⟩
    rcases Nat.lt_or_ge k key with h1 | h1
    · rw [Env.sets_lt h1]
    · rcases Nat.lt_or_ge k (key + (cts res).length) with h2 | h2
      · rw [free_not_has hfree h1 h2] at hk; cases hk
      · rw [Env.sets_ge (by omega)]
  have hs' := h.congr hag
  have hG' : G.den (env.sets key rds) = false := by rw [← BE.den_congr hag.e hG]; exact hGf
  have hmono : ∀ k, st.has k = true → (st.claim key (width res)).has k = true := fun k hk => has_mono hk
  have hnew : ∀ i, i < (cts res).length → (st.claim key (width res)).has (key + i) = true := fun i hi => has_new (by omega) (by rw [hw]; omega)
  have hall := freshLeaves_all (q := (st.claim key (width res)).has) G (BE.all_mono hmono hG) (cts res) key hnew
  have hng : ∀ r ∈ (freshV1s G key res).2, r.g = G := by
    have : ∀ (cs : List CT) (id : Nat), ∀ r ∈ (freshLeaves G id cs).2, r.g = G := by
      intro cs
      induction cs with
      | nil => intro id r hr; simp [freshLeaves] at hr
      | cons c cs ih =>
        intro id r hr
        simp only [freshLeaves, List.mem_append] at hr
        rcases hr with hr | hr
        · cases c with
          | c k => cases k <;> simp [freshLeaf] at hr
          | s e ks => simp [freshLeaf] at hr; rw [hr]
        · exact ih _ r hr
    rw [freshV1s_rows]
    exact this _ _
  refine ⟨⟨?_, ?_, h.below, by rw [act_put_defers]; exact h.defers, ?_⟩, hag, grownBy_refl w, fun k hk => by rw [has_put]; exact hmono k hk⟩
  · refine put_ok (st := { st.claim key (width res) with rows := insRows (freshV1s G key res).2 st.rows }) hs'.tmps ?_
    simp only [Slot.den, hG']
    rfl
  · rw [put_blks, put_rows]
    have hk := hs'.mem
    have ho : ∀ r ∈ insRows (freshV1s G key res).2 st.rows, r.g.den (env.sets key rds) = true → r ∈ st.rows := fun r hr h1 => by
      rcases mem_insRows.1 hr with hr | hr
      · rw [hng r hr, hG'] at h1; cases h1
      · exact hr
    exact ⟨hk.blk, hk.bb, fun r hr h1 => hk.row r (ho r hr h1) h1, fun b hb r hr h1 => hk.br b hb r (ho r hr h1) h1, fun r hr r' hr' hne hw h1 h2 => hk.rr r (ho r hr h1) r' (ho r' hr' h2) hne hw h1 h2⟩
  · refine ⟨?_, ?_, ?_⟩
    · exact put_known (st := { st.claim key (width res) with rows := insRows (freshV1s G key res).2 st.rows }) (fun t s ht => Slot.all_mono hmono (h.names.tmps t s ht)) (packV_all (BE.all_mono hmono hG) (freshV1s_all G (BE.all_mono hmono hG) res key hnew))
    · rw [put_blks, has_put]
      exact fun b hb => Blk.all_mono hmono (h.names.blks b hb)
    · rw [put_rows, has_put]
      intro r hr
      rcases mem_insRows.1 hr with hr | hr
      · rw [freshV1s_rows] at hr
        exact hall.2 r hr
      · exact Row.all_mono hmono (h.names.rows r hr)

end Go.Sx
