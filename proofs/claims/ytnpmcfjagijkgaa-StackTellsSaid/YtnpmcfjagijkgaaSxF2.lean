/- The symbolic executor: into a loop, and back to its head. -/
import Derived.Test.YtnpmcfjagijkgaaSxF1
set_option linter.unusedVariables false
set_option linter.unusedSimpArgs false
namespace Go.Sx
open Go.RowKit

variable {env env' : Env} {ph ph' : Ph} {P : Program}

abbrev belowB (n : Nat) : Nat → Bool := fun k => decide (k < n)

theorem below_mono {n n' : Nat} (h : n ≤ n') : ∀ k, belowB n k = true → belowB n' k = true := fun k hk => by simp only [belowB, decide_eq_true_eq] at hk ⊢; omega

def NamedE (env env' : Env) (id : Nat) (es : List DE) : Prop := ∀ (j : Nat) (d : DE), es[j]? = some d → env' (id + j) = d.den env

theorem NamedE.append {id : Nat} {es es' : List DE} (h : NamedE env env' id (es ++ es')) : NamedE env env' id es ∧ NamedE env env' (id + es.length) es' :=
  ⟨fun j d hj => h j d (by rw [List.getElem?_append_left (List.getElem?_eq_some_iff.1 hj).1]; exact hj),
   fun j d hj => by rw [Nat.add_assoc]; exact h _ d (by rw [List.getElem?_append_right (by omega)]; simpa using hj)⟩

theorem leavesAll_get {q : Nat → Bool} : ∀ {ls : List Leaf}, (∀ l ∈ ls, l.all q = true) → leavesAll q ls = true := by
  intro ls
  induction ls with
  | nil => intro _; rfl
  | cons l ls ih => intro h; simp only [leavesAll, h l (List.mem_cons_self ..), Bool.true_and]; exact ih fun x hx => h x (List.mem_cons_of_mem _ hx)
theorem leavesAll_mem {q : Nat → Bool} : ∀ {ls : List Leaf}, leavesAll q ls = true → ∀ l ∈ ls, l.all q = true := by
  intro ls
  induction ls with
  | nil => intro _ l hl; simp at hl
  | cons l ls ih =>
    intro h x hx
    simp only [leavesAll, Bool.and_eq_true] at h
    rcases List.mem_cons.1 hx with rfl | hx
    · exact h.1
    · exact ih h.2 x hx

theorem headCells_spec {hs : List (Nat × Nat)} {blk base : Nat} {st : St} : ∀ {ls : List Leaf} {j id : Nat} {ls' : List Leaf} {es : List DE} {cs : List CT} {n : Nat}, headCells hs blk st j id ls = some (ls', es, cs, n) → base ≤ id → leavesAll (belowB base) ls = true →
    n = id + es.length ∧ kinds cs (es.map (DE.den env)) = true ∧ ∀ env' ph', NamedE env env' id es → Agree (belowB base) env env' ph ph' → ls'.map (Leaf.den env' ph') = ls.map (Leaf.den env ph) ∧ leavesAll (belowB n) ls' = true := by
  intro ls
  induction ls with
  | nil =>
    intro j id ls' es cs n h hb ha
    simp only [headCells, Option.some.injEq, Prod.mk.injEq] at h
    obtain ⟨rfl, rfl, rfl, rfl⟩ := h
    exact ⟨rfl, rfl, fun _ _ _ _ => ⟨rfl, rfl⟩⟩
  | cons l ls ih =>
    intro j id ls' es cs n h hb ha
    simp only [leavesAll, Bool.and_eq_true] at ha
    simp only [headCells] at h
    split at h
    · split at h
      · rename_i d c l1 hcl
        split at h
        · rename_i ls1 es1 cs1 n1 hrec
          simp only [Option.some.injEq, Prod.mk.injEq] at h
          obtain ⟨rfl, rfl, rfl, rfl⟩ := h
          obtain ⟨hn, hk, hH⟩ := ih hrec (by omega) ha.2
          have hd : DV.kind c (d.den env) = true ∧ ∀ env' ph', env' id = d.den env → l1.den env' ph' = l.den env ph ∧ l1.all (belowB n1) = true := by
            unfold carryLeaf at hcl
            split at hcl
            · simp only [Option.some.injEq, Prod.mk.injEq] at hcl
              obtain ⟨rfl, rfl, rfl⟩ := hcl
              exact ⟨rfl, fun env' ph' he => ⟨by simp [Leaf.den, IE.den, he, DE.den, DV.int], by simp [Leaf.all, IE.all, belowB]; omega⟩⟩
            · simp only [Option.some.injEq, Prod.mk.injEq] at hcl
              obtain ⟨rfl, rfl, rfl⟩ := hcl
              exact ⟨rfl, fun env' ph' he => ⟨by simp [Leaf.den, BE.den, he, DE.den, DV.bool], by simp [Leaf.all, BE.all, belowB]; omega⟩⟩
            · cases hcl
          refine ⟨by simp; omega, by simp [kinds, hk, hd.1], fun env' ph' hnm hag => ?_⟩
          have h0 := hnm 0 d rfl
          obtain ⟨e1, e2⟩ := hd.2 env' ph' (by simpa using h0)
          obtain ⟨e3, e4⟩ := hH env' ph' (fun j d hj => by rw [show id + 1 + j = id + (j + 1) by omega]; exact hnm (j + 1) d (by simpa using hj)) hag
          exact ⟨by simp [e1, e3], by simp only [leavesAll, e2, e4, Bool.and_self]⟩
        · cases h
      · cases h
    · split at h
      · rename_i ls1 es1 cs1 n1 hrec
        simp only [Option.some.injEq, Prod.mk.injEq] at h
        obtain ⟨rfl, rfl, rfl, rfl⟩ := h
        obtain ⟨hn, hk, hH⟩ := ih hrec hb ha.2
        refine ⟨hn, hk, fun env' ph' hnm hag => ?_⟩
        obtain ⟨e3, e4⟩ := hH env' ph' hnm hag
        refine ⟨?_, ?_⟩
        · simp only [List.map_cons, e3]
          rw [← Leaf.den_congr hag ha.1]
        · simp only [leavesAll, e4, Bool.and_true]
          exact Leaf.all_mono (below_mono (by omega)) ha.1
      · cases h

/-- Blocks that hold the same under other names. -/
def SameBlks (env env' : Env) (ph ph' : Ph) (n : Nat) (bs bs' : List Blk) : Prop :=
  ∀ b' ∈ bs', ∃ b ∈ bs, b'.id = b.id ∧ b'.ty = b.ty ∧ b'.cells.map (Leaf.den env' ph') = b.cells.map (Leaf.den env ph) ∧ b'.all (belowB n) = true

theorem headBlks_spec {hs : List (Nat × Nat)} {base : Nat} {st : St} : ∀ {bs : List Blk} {id : Nat} {bs' : List Blk} {es : List DE} {cs : List CT} {n : Nat}, headBlks hs st id bs = some (bs', es, cs, n) → base ≤ id → (∀ b ∈ bs, b.all (belowB base) = true) →
    n = id + es.length ∧ kinds cs (es.map (DE.den env)) = true ∧ ∀ env' ph', NamedE env env' id es → Agree (belowB base) env env' ph ph' → SameBlks env env' ph ph' n bs bs' := by
  intro bs
  induction bs with
  | nil =>
    intro id bs' es cs n h hb ha
    simp only [headBlks, Option.some.injEq, Prod.mk.injEq] at h
    obtain ⟨rfl, rfl, rfl, rfl⟩ := h
    exact ⟨rfl, rfl, fun _ _ _ _ b hb => by simp at hb⟩
  | cons b bs ih =>
    intro id bs' es cs n h hb ha
    simp only [headBlks] at h
    split at h
    · rename_i cs1 es1 ks1 n1 hc
      split at h
      · rename_i bs2 es2 ks2 n2 hrec
        simp only [Option.some.injEq, Prod.mk.injEq] at h
        obtain ⟨rfl, rfl, rfl, rfl⟩ := h
        have hab := ha b (List.mem_cons_self ..)
        simp only [Blk.all, Bool.and_eq_true] at hab
        obtain ⟨hn1, hk1, hH1⟩ := headCells_spec (env := env) (ph := ph) hc hb hab.2
        obtain ⟨hn2, hk2, hH2⟩ := ih hrec (by omega) (fun b hb => ha b (List.mem_cons_of_mem _ hb))
        refine ⟨by simp; omega, ?_, fun env' ph' hnm hag => ?_⟩
        · rw [List.map_append]
          have : ∀ (a b : List CT) (x y : List DV), kinds a x = true → kinds b y = true → kinds (a ++ b) (x ++ y) = true := by
            intro a
            induction a with
            | nil => intro b x y h1 h2; cases x <;> simp_all [kinds]
            | cons c a ih => intro b x y h1 h2; cases x with
              | nil => simp [kinds] at h1
              | cons d x => simp only [kinds, Bool.and_eq_true] at h1; simp only [List.cons_append, kinds, h1.1, Bool.true_and]; exact ih b x y h1.2 h2
          exact this _ _ _ _ hk1 hk2
        · obtain ⟨g1, g2⟩ := hnm.append
          intro b' hb'
          rcases List.mem_cons.1 hb' with rfl | hb'
          · obtain ⟨e1, e2⟩ := hH1 env' ph' g1 hag
            refine ⟨b, List.mem_cons_self .., rfl, rfl, e1, ?_⟩
            simp only [Blk.all, Bool.and_eq_true]
            exact ⟨below_mono (by omega) _ hab.1, leavesAll_mono (below_mono (by omega)) e2⟩
          · rw [← hn1] at g2
            obtain ⟨b0, hb0, h1⟩ := hH2 env' ph' g2 hag b' hb'
            exact ⟨b0, List.mem_cons_of_mem _ hb0, h1⟩
      · cases h
    · cases h

theorem kinds_append : ∀ {a b : List CT} {x y : List DV}, kinds a x = true → kinds b y = true → kinds (a ++ b) (x ++ y) = true := by
  intro a
  induction a with
  | nil => intro b x y h1 h2; cases x <;> simp_all [kinds]
  | cons c a ih => intro b x y h1 h2; cases x with
    | nil => simp [kinds] at h1
    | cons d x => simp only [kinds, Bool.and_eq_true] at h1; simp only [List.cons_append, kinds, h1.1, Bool.true_and]; exact ih h1.2 h2
theorem kinds_len : ∀ {a : List CT} {x : List DV}, kinds a x = true → x.length = a.length := by
  intro a
  induction a with
  | nil => intro x h; cases x <;> simp_all [kinds]
  | cons c a ih => intro x h; cases x with
    | nil => simp [kinds] at h
    | cons d x => simp only [kinds, Bool.and_eq_true] at h; simp [ih h.2]

theorem has_next {st : St} (hd : st.dom = []) : st.has = belowB st.next := by
  funext k
  simp [St.has, hd, belowB]

/-- Into the loop. -/
theorem mkHead_sound {w0 w : World} {c : Code} {h : Hint} {st : St} {hd : Head} {a : Act} (hs : Sat w0 env ph st a w) (hdom : st.dom = []) (hm : mkHead c h st = some hd) :
    hd.st.dom = [] ∧ hd.st.next = st.next + hd.ks.length ∧ kinds hd.ks (hd.entry.map (DE.den env)) = true ∧ ∃ ph', Sat w0 (env.sets st.next (hd.entry.map (DE.den env))) ph' hd.st a w := by
  have hnm := hs.names
  have hh := has_next hdom
  unfold mkHead at hm
  split at hm
  · cases hm
  · rename_i ts rs es ks n hT
    split at hm
    · rename_i bs es' ks' n' hB
      simp only [Option.some.injEq] at hm
      subst hm
      have nt : ∀ (t : Nat) (s : Slot), st.tmps[t]? = some (some s) → s.all (belowB st.next) = true := hh ▸ hnm.tmps
      have nb : ∀ b ∈ st.blks, b.all (belowB st.next) = true := hh ▸ hnm.blks
      have nr : ∀ r ∈ st.rows, r.all (belowB st.next) = true := hh ▸ hnm.rows
      obtain ⟨hn1, hk1, vs, hvl, hH1⟩ := headTmps_spec (B := w0.heap.size) (w := w) (env := env) (ph := ph) hT (Nat.le_refl _) nt nr
      obtain ⟨hn2, hk2, hH2⟩ := headBlks_spec (env := env) (ph := ph) hB (by omega : st.next ≤ n) nb
      have hkk : kinds (ks ++ ks') ((es ++ es').map (DE.den env)) = true := by rw [List.map_append]; exact kinds_append hk1 hk2
      have hlen := kinds_len hkk
      simp only [List.length_map, List.length_append] at hlen
      refine ⟨rfl, by simp; omega, hkk, { ph with v := fun k => if st.next ≤ k then (match vs[k - st.next]? with | some v => v | none => ph.v k) else ph.v k }, ?_⟩
      have hE : NamedE env (env.sets st.next ((es ++ es').map (DE.den env))) st.next (es ++ es') := fun j d hj => Env.sets_in (by rw [List.getElem?_map, hj]; rfl)
      have hag : Agree (belowB st.next) env (env.sets st.next ((es ++ es').map (DE.den env))) ph { ph with v := fun k => if st.next ≤ k then (match vs[k - st.next]? with | some v => v | none => ph.v k) else ph.v k } := by
        refine ⟨fun k hk => ?_, fun _ _ => rfl, fun k hk => ?_⟩
        · simp only [belowB, decide_eq_true_eq] at hk
          rw [Env.sets_lt hk]
        · simp only [belowB, decide_eq_true_eq] at hk
          simp only
          rw [if_neg (by omega)]
      have hT' := hH1 _ _ ⟨hE.append.1, fun j v hj => by simp [hj]⟩ hag
      have hB' := hH2 _ _ (by rw [hn1]; exact hE.append.2) hag
      refine ⟨⟨?_, fun t s ht => ?_⟩, ⟨?_, ?_, ?_, ?_, ?_⟩, hs.below, hs.defers, ⟨?_, ?_, ?_⟩⟩
      · rw [hT'.len]; exact hs.tmps.1
      · obtain ⟨s0, h1, h2, _⟩ := hT'.slot t s ht
        rw [h2]
        exact hs.tmps.2 t s0 h1
      · intro b hb
        obtain ⟨b0, hb0, e1, e2, e3, _⟩ := hB' b hb
        have := hs.mem.blk b0 hb0
        unfold BlkOk at *
        rw [e3, e1, e2]
        exact this
      · intro b hb b' hb' hne
        obtain ⟨b0, hb0, e1, _⟩ := hB' b hb
        obtain ⟨b0', hb0', e1', _⟩ := hB' b' hb'
        rw [e1, e1'] at hne ⊢
        exact hs.mem.bb b0 hb0 b0' hb0' hne
      · exact hT'.row hs.mem.row
      · intro b hb r hr hg e
        obtain ⟨b0, hb0, e1, _⟩ := hB' b hb
        obtain ⟨r0, hr0, hg0, hf0⟩ := hT'.from' r hr hg _ e
        rw [e1] at hf0
        exact hs.mem.br b0 hb0 r0 hr0 hg0 hf0
      · exact hT'.rr hs.mem.rr
      · intro t s ht
        obtain ⟨_, _, _, h3⟩ := hT'.slot t s ht
        rw [has_next rfl]
        exact Slot.all_mono (below_mono (by simp only; omega)) h3
      · intro b hb
        obtain ⟨_, _, _, _, _, h4⟩ := hB' b hb
        rw [has_next rfl]
        exact h4
      · intro r hr
        rw [has_next rfl]
        exact Row.all_mono (below_mono (by simp only; omega)) (hT'.names r hr)
    · cases hm

end Go.Sx
