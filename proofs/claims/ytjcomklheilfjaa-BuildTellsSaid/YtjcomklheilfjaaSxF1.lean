/- The symbolic executor: the head of a loop. -/
import Derived.Test.YtjcomklheilfjaaSxE5
set_option linter.unusedVariables false
set_option linter.unusedSimpArgs false
namespace Go.Sx
open Go.RowKit

variable {env env' : Env} {ph ph' : Ph} {P : Program}

abbrev Triple := Option Addr × Nat × Nat

/-- The rows of a list stand for rows of another. -/
def RowsFrom (env env' : Env) (ph ph' : Ph) (rs' rs : List Row) : Prop :=
  ∀ r' ∈ rs', r'.g.den env' = true → ∀ k, r'.foot env' ph' = some k → ∃ r ∈ rs, r.g.den env = true ∧ r.foot env ph = some k

structure HeadT (B : Nat) (w : World) (base : Nat) (env env' : Env) (ph ph' : Ph) (ts ss : List (Option Slot)) (rs rs' : List Row) (n : Nat) : Prop where
  len : ss.length = ts.length
  slot : ∀ (j : Nat) (s : Slot), ss[j]? = some (some s) → ∃ s0, ts[j]? = some (some s0) ∧ s.den env' ph' = s0.den env ph ∧ s.all (fun k => decide (k < n)) = true
  row : (∀ r ∈ rs, r.g.den env = true → RowOk B env ph r w) → ∀ r ∈ rs', r.g.den env' = true → RowOk B env' ph' r w
  rr : (∀ r ∈ rs, ∀ r' ∈ rs, r.id ≠ r'.id → r.own = true → r.g.den env = true → r'.g.den env = true → ∀ k, r.foot env ph = some k → r'.foot env ph ≠ some k) →
    (∀ r ∈ rs', ∀ r' ∈ rs', r.id ≠ r'.id → r.own = true → r.g.den env' = true → r'.g.den env' = true → ∀ k, r.foot env' ph' = some k → r'.foot env' ph' ≠ some k)
  from' : RowsFrom env env' ph ph' rs' rs
  names : ∀ r ∈ rs', r.all (fun k => decide (k < n)) = true

theorem nil_own (w : World) (B : Nat) (e : TypeId) (sz : Nat) : w.ownsRow B e sz (.slice none 0 0) 0 [] := World.ownsRow_nil w B e sz

theorem HeadT.mono_n {B : Nat} {w : World} {base n n' : Nat} {ts ss : List (Option Slot)} {rs rs' : List Row} (h : HeadT B w base env env' ph ph' ts ss rs rs' n) (hn : n ≤ n') : HeadT B w base env env' ph ph' ts ss rs rs' n' :=
  ⟨h.len, fun j s hj => by
    obtain ⟨s0, h1, h2, h3⟩ := h.slot j s hj
    exact ⟨s0, h1, h2, Slot.all_mono (fun k hk => by simp only [decide_eq_true_eq] at hk ⊢; omega) h3⟩, h.row, h.rr, h.from', fun r hr => Row.all_mono (fun k hk => by simp only [decide_eq_true_eq] at hk ⊢; omega) (h.names r hr)⟩

/-- A slot is put in front. -/
theorem HeadT.cons {B : Nat} {w : World} {base n : Nat} {ts ss : List (Option Slot)} {rs rs' : List Row} {s s0 : Option Slot} (h : HeadT B w base env env' ph ph' ts ss rs rs' n)
    (hs : ∀ x, s = some x → ∃ x0, s0 = some x0 ∧ x.den env' ph' = x0.den env ph ∧ x.all (fun k => decide (k < n)) = true) : HeadT B w base env env' ph ph' (s0 :: ts) (s :: ss) rs rs' n :=
  ⟨by simp [h.len], fun j x hj => by
    cases j with
    | zero =>
      simp only [List.getElem?_cons_zero, Option.some.injEq] at hj
      obtain ⟨x0, h1, h2, h3⟩ := hs x hj
      exact ⟨x0, by simp [h1], h2, h3⟩
    | succ j => simpa using h.slot j x (by simpa using hj), h.row, h.rr, h.from', h.names⟩

/-- A slot that holds a new row is put in front. -/
theorem HeadT.consRow {B : Nat} {w : World} {base n id : Nat} {e : TypeId} {ks : List CK} {ts ss : List (Option Slot)} {rs rs1 rs' : List Row} {s0 : Slot} (h : HeadT B w base env env' ph ph' ts ss rs1 rs' n) (hn : id < n)
    (hs : ph'.val id = s0.den env ph) (hsub : ∀ r ∈ rs1, r ∈ rs) (hok : (∀ r ∈ rs, r.g.den env = true → RowOk B env ph r w) → RowOk B env' ph' ⟨id, e, ks, id, true, .c true⟩ w)
    (hfoot : ∀ k, (ph'.val id).ownBlock = some k → ∃ x ∈ rs, x.own = true ∧ x.g.den env = true ∧ x.foot env ph = some k ∧ ∀ r ∈ rs1, r.id ≠ x.id) :
    HeadT B w base env env' ph ph' (some s0 :: ts) (some ⟨.c true, .v (.one (.s id))⟩ :: ss) rs (insRow ⟨id, e, ks, id, true, .c true⟩ rs') n := by
  have hf : ∀ k, (⟨id, e, ks, id, true, .c true⟩ : Row).foot env' ph' = some k → (ph'.val id).ownBlock = some k := fun k hk => by simpa [Row.foot] using hk
  refine ⟨by simp [h.len], fun j x hj => ?_, fun hr r hm hg => ?_, fun hrr r hm r' hm' hne ho hg hg' k hk hk' => ?_, fun r hm hg k hk => ?_, fun r hm => ?_⟩
  · cases j with
    | zero =>
      simp only [List.getElem?_cons_zero, Option.some.injEq] at hj
      subst hj
      refine ⟨s0, rfl, ?_, by simp [Slot.all, SV.all, V1.all, Leaf.all, BE.all, hn]⟩
      simp only [Slot.den, BE.den, if_true, SV.den, V1.den, Leaf.den]
      exact hs
    | succ j => simpa using h.slot j x (by simpa using hj)
  · rcases mem_insRow.1 hm with rfl | hm
    · exact hok hr
    · exact h.row (fun r hr' => hr r (hsub r hr')) r hm hg
  · have hrr1 := h.rr (fun r hr r' hr' => hrr r (hsub r hr) r' (hsub r' hr'))
    rcases mem_insRow.1 hm with rfl | hm <;> rcases mem_insRow.1 hm' with rfl | hm'
    · exact hne rfl
    · obtain ⟨x, hx, hxo, hxg, hxf, hxi⟩ := hfoot k (hf k hk)
      obtain ⟨r0, hr0, hg0, hf0⟩ := h.from' r' hm' hg' k hk'
      exact hrr x hx r0 (hsub r0 hr0) (fun e => hxi r0 hr0 e.symm) hxo hxg hg0 k hxf hf0
    · obtain ⟨x, hx, hxo, hxg, hxf, hxi⟩ := hfoot k (hf k hk')
      obtain ⟨r0, hr0, hg0, hf0⟩ := h.from' r hm hg k hk
      exact hrr x hx r0 (hsub r0 hr0) (fun e => hxi r0 hr0 e.symm) hxo hxg hg0 k hxf hf0
    · exact hrr1 r hm r' hm' hne ho hg hg' k hk hk'
  · rcases mem_insRow.1 hm with rfl | hm
    · obtain ⟨x, hx, _, hxg, hxf, _⟩ := hfoot k (hf k hk)
      exact ⟨x, hx, hxg, hxf⟩
    · obtain ⟨r0, hr0, h1, h2⟩ := h.from' r hm hg k hk
      exact ⟨r0, hsub r0 hr0, h1, h2⟩
  · rcases mem_insRow.1 hm with rfl | hm
    · simp [Row.all, BE.all, hn]
    · exact h.names r hm

/-- What is asked of the new names: their data, their slices. -/
def Named (env env' : Env) (ph' : Ph) (id : Nat) (es : List DE) (vs : List Triple) : Prop :=
  (∀ (j : Nat) (d : DE), es[j]? = some d → env' (id + j) = d.den env) ∧ (∀ (j : Nat) (v : Triple), vs[j]? = some v → ph'.v (id + j) = v)

theorem Named.tail {id : Nat} {d : DE} {es : List DE} {v : Triple} {vs : List Triple} (h : Named env env' ph' id (d :: es) (v :: vs)) : env' id = d.den env ∧ ph'.v id = v ∧ Named env env' ph' (id + 1) es vs :=
  ⟨by simpa using h.1 0 d rfl, by simpa using h.2 0 v rfl, fun j d hj => by rw [show id + 1 + j = id + (j + 1) by omega]; exact h.1 (j + 1) d (by simpa using hj),
    fun j v hj => by rw [show id + 1 + j = id + (j + 1) by omega]; exact h.2 (j + 1) v (by simpa using hj)⟩

theorem headTmps_spec {B : Nat} {w : World} {base : Nat} {ds : List Nat} {hr : List (Nat × TypeId × List CK)} : ∀ {ts : List (Option Slot)} {t id : Nat} {rs : List Row} {ss : List (Option Slot)} {rs' : List Row} {es : List DE} {cs : List CT} {n : Nat},
    headTmps ds hr t id ts rs = some (ss, rs', es, cs, n) → base ≤ id → (∀ (j : Nat) (s : Slot), ts[j]? = some (some s) → s.all (fun k => decide (k < base)) = true) → (∀ r ∈ rs, r.all (fun k => decide (k < base)) = true) →
    n = id + es.length ∧ kinds cs (es.map (DE.den env)) = true ∧ ∃ vs : List Triple, vs.length = es.length ∧
      ∀ env' ph', Named env env' ph' id es vs → Agree (fun k => decide (k < base)) env env' ph ph' → HeadT B w base env env' ph ph' ts ss rs rs' n := by
  intro ts
  induction ts with
  | nil =>
    intro t id rs ss rs' es cs n h hb hts hrs
    simp only [headTmps, Option.some.injEq, Prod.mk.injEq] at h
    obtain ⟨rfl, rfl, rfl, rfl, rfl⟩ := h
    refine ⟨rfl, rfl, [], rfl, fun env' ph' _ hag => ?_⟩
    have hr : ∀ r ∈ rs, r.foot env' ph' = r.foot env ph ∧ r.g.den env' = r.g.den env ∧ ph'.val r.id = ph.val r.id ∧ env' r.lv = env r.lv := fun r hr => by
      have := hrs r hr
      simp only [Row.all, Bool.and_eq_true] at this
      refine ⟨?_, (BE.den_congr hag.e this.2.2).symm, by simp only [Ph.val, ← hag.v _ this.1], (hag.e _ this.2.1).symm⟩
      unfold Row.foot
      rw [← hag.e _ this.2.1]
      simp only [Ph.val, ← hag.v _ this.1]
    refine ⟨rfl, fun j s hj => by simp at hj, fun hok r hm hg => ?_, fun hrr r hm r' hm' hne ho hg hg' k hk hk' => ?_, fun r hm hg k hk => ?_, fun r hm => ?_⟩
    · obtain ⟨e1, e2, e3, e4⟩ := hr r hm
      have := hok r hm (by rw [← e2]; exact hg)
      unfold RowOk at *
      rw [e3, e4]
      exact this
    · obtain ⟨e1, e2, _⟩ := hr r hm
      obtain ⟨f1, f2, _⟩ := hr r' hm'
      exact hrr r hm r' hm' hne ho (by rw [← e2]; exact hg) (by rw [← f2]; exact hg') k (by rw [← e1]; exact hk) (by rw [← f1]; exact hk')
    · obtain ⟨e1, e2, _⟩ := hr r hm
      exact ⟨r, hm, by rw [← e2]; exact hg, by rw [← e1]; exact hk⟩
    · exact Row.all_mono (fun k hk => by simp only [decide_eq_true_eq] at hk ⊢; omega) (hrs r hm)
  | cons s ts ih =>
    intro t id rs ss rs' es cs n h hb hts hrs
    have hts' : ∀ (j : Nat) (s : Slot), ts[j]? = some (some s) → s.all (fun k => decide (k < base)) = true := fun j x hj => hts (j + 1) x (by simpa using hj)
    have hlt : ∀ {n : Nat}, base ≤ n → ∀ k, decide (k < base) = true → decide (k < n) = true := fun hn k hk => by simp only [decide_eq_true_eq] at hk ⊢; omega
    simp only [headTmps] at h
    split at h
    · rename_i t' e ks hfind
      split at h
      · split at h
        · rename_i hks
          split at h
          · rename_i ss1 rs1 es1 cs1 n1 hrec
            simp only [Option.some.injEq, Prod.mk.injEq] at h
            obtain ⟨rfl, rfl, rfl, rfl, rfl⟩ := h
            obtain ⟨hn, hk, vs, hvl, hH⟩ := ih hrec (by omega) hts' hrs
            refine ⟨by simp; omega, by simp [kinds, hk, DE.den, DV.kind], (none, 0, 0) :: vs, by simp [hvl], fun env' ph' hnm hag => ?_⟩
            obtain ⟨h1, h2, h3⟩ := hnm.tail
            have hval : ph'.val id = .slice none 0 0 := by simp [Ph.val, h2]
            refine (hH env' ph' h3 hag).consRow (by omega) (by rw [hval]; simp [Slot.den, BE.den, SV.den, V1.den, Leaf.den]) (fun r h => h) (fun _ => ⟨hks, ?_⟩) (fun k hk => by rw [hval] at hk; simp [Value.ownBlock] at hk)
            simp only [if_true, hval, h1, DE.den, DV.list, List.length_nil, flatRows]
            exact nil_own w B e ks.length
          · cases h
        · cases h
      · rename_i r
        split at h
        · rename_i x hx
          split at h
          · rename_i hc
            simp only [Bool.and_eq_true, decide_eq_true_eq] at hc
            obtain ⟨⟨⟨hxo, hxg⟩, hxe⟩, hxk⟩ := hc
            have hxm := List.mem_of_find?_eq_some hx
            have hxid : x.id = r := by simpa using List.find?_some hx
            split at h
            · rename_i ss1 rs1 es1 cs1 n1 hrec
              simp only [Option.some.injEq, Prod.mk.injEq] at h
              obtain ⟨rfl, rfl, rfl, rfl, rfl⟩ := h
              obtain ⟨hn, hk, vs, hvl, hH⟩ := ih hrec (by omega) hts' (fun r hr => hrs r (List.mem_filter.1 hr).1)
              refine ⟨by simp; omega, by simp [kinds, hk, DE.den, DV.kind], ph.v r :: vs, by simp [hvl], fun env' ph' hnm hag => ?_⟩
              obtain ⟨h1, h2, h3⟩ := hnm.tail
              have hval : ph'.val id = ph.val x.id := by simp [Ph.val, h2, hxid]
              have hgd : x.g.den env = true := by rw [hxg]; rfl
              refine (hH env' ph' h3 hag).consRow (rs := rs) (by omega) (by rw [hval, hxid]; simp [Slot.den, BE.den, SV.den, V1.den, Leaf.den]) (fun r h => (List.mem_filter.1 h).1) (fun hok => ?_)
                (fun k hk => ⟨x, hxm, hxo, hgd, by rw [hval] at hk; simp [Row.foot, hxo, hk], fun r' hr' e => by have := (List.mem_filter.1 hr').2; simp only [ne_eq, decide_eq_true_eq] at this; exact this (by rw [e, hxid])⟩)
              obtain ⟨h0, ho⟩ := hok x hxm hgd
              rw [if_pos hxo, hxe, hxk] at ho
              refine ⟨by rw [← hxk]; exact h0, ?_⟩
              simp only [if_true, hval, h1, DE.den, DV.list]
              exact ho
            · cases h
          · cases h
        · cases h
      · cases h
    · split at h
      · split at h
        · rename_i kd e
          split at h
          · rename_i ss1 rs1 es1 cs1 n1 hrec
            simp only [Option.some.injEq, Prod.mk.injEq] at h
            obtain ⟨rfl, rfl, rfl, rfl, rfl⟩ := h
            obtain ⟨hn, hk, vs, hvl, hH⟩ := ih hrec (by omega) hts' hrs
            refine ⟨by simp; omega, by simp [kinds, hk, DE.den, DV.kind], (none, 0, 0) :: vs, by simp [hvl], fun env' ph' hnm hag => ?_⟩
            obtain ⟨h1, h2, h3⟩ := hnm.tail
            refine (hH env' ph' h3 hag).cons fun x hx => ?_
            simp only [Option.some.injEq] at hx; subst hx
            exact ⟨_, rfl, by simp [Slot.den, BE.den, SV.den, V1.den, Leaf.den, IE.den, h1, DE.den, DV.int], by simp [Slot.all, SV.all, V1.all, Leaf.all, IE.all, BE.all]; omega⟩
          · cases h
        · rename_i e
          split at h
          · rename_i ss1 rs1 es1 cs1 n1 hrec
            simp only [Option.some.injEq, Prod.mk.injEq] at h
            obtain ⟨rfl, rfl, rfl, rfl, rfl⟩ := h
            obtain ⟨hn, hk, vs, hvl, hH⟩ := ih hrec (by omega) hts' hrs
            refine ⟨by simp; omega, by simp [kinds, hk, DE.den, DV.kind], (none, 0, 0) :: vs, by simp [hvl], fun env' ph' hnm hag => ?_⟩
            obtain ⟨h1, h2, h3⟩ := hnm.tail
            refine (hH env' ph' h3 hag).cons fun x hx => ?_
            simp only [Option.some.injEq] at hx; subst hx
            exact ⟨_, rfl, by simp [Slot.den, BE.den, SV.den, V1.den, Leaf.den, h1, DE.den, DV.bool], by simp [Slot.all, SV.all, V1.all, Leaf.all, BE.all]; omega⟩
          · cases h
        · split at h
          · rename_i ss1 rs1 es1 cs1 n1 hrec
            simp only [Option.some.injEq, Prod.mk.injEq] at h
            obtain ⟨rfl, rfl, rfl, rfl, rfl⟩ := h
            obtain ⟨hn, hk, vs, hvl, hH⟩ := ih hrec hb hts' hrs
            exact ⟨hn, hk, vs, hvl, fun env' ph' hnm hag => (hH env' ph' hnm hag).cons fun x hx => by cases hx⟩
          · cases h
      · split at h
        · rename_i ss1 rs1 es1 cs1 n1 hrec
          simp only [Option.some.injEq, Prod.mk.injEq] at h
          obtain ⟨rfl, rfl, rfl, rfl, rfl⟩ := h
          obtain ⟨hn, hk, vs, hvl, hH⟩ := ih hrec hb hts' hrs
          refine ⟨hn, hk, vs, hvl, fun env' ph' hnm hag => (hH env' ph' hnm hag).cons fun x hx => ⟨x, hx, ?_, ?_⟩⟩
          · exact (Slot.den_congr hag (hts 0 x (by simp [hx]))).symm
          · exact Slot.all_mono (hlt (by omega)) (hts 0 x (by simp [hx]))
        · cases h

end Go.Sx
