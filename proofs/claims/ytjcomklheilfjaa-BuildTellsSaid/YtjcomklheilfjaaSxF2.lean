/- The symbolic executor: into a loop, and back to its head. -/
import Derived.Test.YtjcomklheilfjaaSxF1
set_option linter.unusedVariables false
set_option linter.unusedSimpArgs false
namespace Go.Sx
open Go.RowKit

variable {env env' : Env} {ph ph' : Ph} {P : Program}

abbrev belowB (n : Nat) : Nat → Bool := fun k => decide (k < n)

theorem below_mono {n n' : Nat} (h : n ≤ n') : ∀ k, belowB n k = true → belowB n' k = true := fun k hk => by simp only [belowB, decide_eq_true_eq] at hk ⊢; omega

def NamedE (env env' : Env) (id : Nat) (es : List DE) : Prop := ∀ (j : Nat) (d : DE), es[j]? = some d → env' (id + j) = d.den env

theorem NamedE.append {id : Nat} {es es' : List DE} (h : NamedE env env' id (es ++ es')) : NamedE env env' id es ∧ NamedE env env' (id + es.length) es' :=
  ⟨fun j d hj => h j d (by rw [List.getElem?_append_left (List.getElem?_eq_some_iff.1 hj).1]; exact hj),
   fun j d hj => by rw [Nat.add_assoc]; exact h _ d (by rw [List.getElem?_append_right (by omega)]; simpa using hj)⟩

theorem leavesAll_get {q : Nat → Bool} : ∀ {ls : List Leaf}, (∀ l ∈ ls, l.all q = true) → leavesAll q ls = true := by
  intro ls
  induction ls with
  | nil => intro _; rfl
  | cons l ls ih => intro h; simp only [leavesAll, h l (List.mem_cons_self ..), Bool.true_and]; exact ih fun x hx => h x (List.mem_cons_of_mem _ hx)
theorem leavesAll_mem {q : Nat → Bool} : ∀ {ls : List Leaf}, leavesAll q ls = true → ∀ l ∈ ls, l.all q = true := by
  intro ls
  induction ls with
  | nil => intro _ l hl; simp at hl
  | cons l ls ih =>
    intro h x hx
    simp only [leavesAll, Bool.and_eq_true] at h
    rcases List.mem_cons.1 hx with rfl | hx
    · exact h.1
    · exact ih h.2 x hx

theorem flatBlks_names {q : Nat → Bool} : ∀ {bs : List Blk}, (∀ b ∈ bs, leavesAll q b.cells = true) → ∀ (j : Nat) (s : Slot), (flatBlks bs)[j]? = some (some s) → s.all q = true := by
  intro bs h j s hj
  have hm := List.mem_of_getElem? hj
  clear hj
  induction bs with
  | nil => simp [flatBlks] at hm
  | cons b bs ih =>
    simp only [flatBlks, List.mem_append, List.mem_map, asSlot, Option.some.injEq] at hm
    rcases hm with ⟨l, hl, rfl⟩ | hm
    · simp only [Slot.all, SV.all, V1.all, BE.all, Bool.true_and]
      exact leavesAll_mem (h b (List.mem_cons_self ..)) l hl
    · exact ih (fun b hb => h b (List.mem_cons_of_mem _ hb)) hm

theorem one_den {l : Leaf} : Slot.den env ph ⟨.c true, .v (.one l)⟩ = l.den env ph := by simp [Slot.den, BE.den, SV.den, V1.den]

/-- Slots that say the same under other names. -/
def Pt (env env' : Env) (ph ph' : Ph) (q : Nat → Bool) (ss ts : List (Option Slot)) : Prop :=
  ∀ (j : Nat) (s : Slot), ss[j]? = some (some s) → ∃ s0, ts[j]? = some (some s0) ∧ s.den env' ph' = s0.den env ph ∧ s.all q = true

theorem Pt.left {q : Nat → Bool} {a b a' b' : List (Option Slot)} (h : Pt env env' ph ph' q (a ++ b) (a' ++ b')) (hl : a.length = a'.length) : Pt env env' ph ph' q a a' := fun j s hj => by
  have hlt := (List.getElem?_eq_some_iff.1 hj).1
  obtain ⟨s0, h1, h2⟩ := h j s (by rw [List.getElem?_append_left hlt]; exact hj)
  rw [List.getElem?_append_left (by omega)] at h1
  exact ⟨s0, h1, h2⟩
theorem Pt.right {q : Nat → Bool} {a b a' b' : List (Option Slot)} (h : Pt env env' ph ph' q (a ++ b) (a' ++ b')) (hl : a.length = a'.length) : Pt env env' ph ph' q b b' := fun j s hj => by
  obtain ⟨s0, h1, h2⟩ := h (a.length + j) s (by rw [List.getElem?_append_right (by omega)]; simpa using hj)
  rw [List.getElem?_append_right (by omega)] at h1
  exact ⟨s0, by rw [← h1]; congr 1; omega, h2⟩

theorem leavesOf_spec {q : Nat → Bool} : ∀ {cs : List Leaf} {ss : List (Option Slot)} {ls : List Leaf}, leavesOf ss = some ls → ss.length = cs.length → Pt env env' ph ph' q ss (cs.map asSlot) →
    ls.map (Leaf.den env' ph') = cs.map (Leaf.den env ph) ∧ leavesAll q ls = true := by
  intro cs
  induction cs with
  | nil => intro ss ls h hl hp; cases ss with
    | nil => simp only [leavesOf, Option.some.injEq] at h; subst h; exact ⟨rfl, rfl⟩
    | cons s ss => simp at hl
  | cons c cs ih => intro ss ls h hl hp; cases ss with
    | nil => simp at hl
    | cons s ss =>
      simp only [leavesOf] at h
      split at h
      · rename_i l ls1 h1 h2
        simp only [Option.some.injEq] at h; subst h
        have hs : s = some ⟨.c true, .v (.one l)⟩ := by
          unfold leafOf at h1
          split at h1
          · simp only [Option.some.injEq] at h1; subst h1; rfl
          · cases h1
        subst hs
        obtain ⟨s0, e0, e1, e2⟩ := hp 0 _ rfl
        simp only [List.map_cons, List.getElem?_cons_zero, asSlot, Option.some.injEq] at e0
        subst e0
        rw [one_den, one_den] at e1
        obtain ⟨e3, e4⟩ := ih h2 (by simpa using hl) (fun j s hj => by simpa using hp (j + 1) s (by simpa using hj))
        simp only [Slot.all, SV.all, V1.all, BE.all, Bool.true_and] at e2
        exact ⟨by simp [e1, e3], by simp only [leavesAll, e2, e4, Bool.and_self]⟩
      · cases h

/-- Blocks that hold the same under other names. -/
def SameBlks (env env' : Env) (ph ph' : Ph) (n : Nat) (bs bs' : List Blk) : Prop :=
  ∀ b' ∈ bs', ∃ b ∈ bs, b'.id = b.id ∧ b'.ty = b.ty ∧ b'.cells.map (Leaf.den env' ph') = b.cells.map (Leaf.den env ph) ∧ b'.all (belowB n) = true

theorem unflat_spec {n : Nat} : ∀ {bs : List Blk} {ss : List (Option Slot)} {bs' : List Blk}, unflat bs ss = some bs' → ss.length = (flatBlks bs).length → Pt env env' ph ph' (belowB n) ss (flatBlks bs) → (∀ b ∈ bs, belowB n b.id = true) → SameBlks env env' ph ph' n bs bs' := by
  intro bs
  induction bs with
  | nil =>
    intro ss bs' h hl hp hb b hm
    simp only [unflat, Option.some.injEq] at h; subst h
    simp at hm
  | cons b bs ih =>
    intro ss bs' h hl hp hb
    simp only [unflat] at h
    split at h
    · rename_i cs bs1 h1 h2
      simp only [Option.some.injEq] at h; subst h
      simp only [flatBlks, List.length_append, List.length_map] at hl
      simp only [flatBlks] at hp
      rw [← List.take_append_drop b.cells.length ss] at hp
      have ht : (ss.take b.cells.length).length = (b.cells.map asSlot).length := by simp; omega
      obtain ⟨e1, e2⟩ := leavesOf_spec h1 (by simpa using ht) (hp.left ht)
      have hrec := ih h2 (by simp; omega) (hp.right ht) (fun b hb' => hb b (List.mem_cons_of_mem _ hb'))
      intro b' hb'
      rcases List.mem_cons.1 hb' with rfl | hb'
      · refine ⟨b, List.mem_cons_self .., rfl, rfl, e1, ?_⟩
        simp only [Blk.all, Bool.and_eq_true]
        exact ⟨hb b (List.mem_cons_self ..), e2⟩
      · obtain ⟨b0, hb0, h1⟩ := hrec b' hb'
        exact ⟨b0, List.mem_cons_of_mem _ hb0, h1⟩
    · cases h

theorem kinds_append : ∀ {a b : List CT} {x y : List DV}, kinds a x = true → kinds b y = true → kinds (a ++ b) (x ++ y) = true := by
  intro a
  induction a with
  | nil => intro b x y h1 h2; cases x <;> simp_all [kinds]
  | cons c a ih => intro b x y h1 h2; cases x with
    | nil => simp [kinds] at h1
    | cons d x => simp only [kinds, Bool.and_eq_true] at h1; simp only [List.cons_append, kinds, h1.1, Bool.true_and]; exact ih h1.2 h2
theorem kinds_len : ∀ {a : List CT} {x : List DV}, kinds a x = true → x.length = a.length := by
  intro a
  induction a with
  | nil => intro x h; cases x <;> simp_all [kinds]
  | cons c a ih => intro x h; cases x with
    | nil => simp [kinds] at h
    | cons d x => simp only [kinds, Bool.and_eq_true] at h; simp [ih h.2]

theorem has_next {st : St} (hd : st.dom = []) : st.has = belowB st.next := by
  funext k
  simp [St.has, hd, belowB]

/-- Into the loop. -/
theorem mkHead_sound {w0 w : World} {c : Code} {h : Hint} {st : St} {hd : Head} {a : Act} (hs : Sat w0 env ph st a w) (hdom : st.dom = []) (hm : mkHead c h st = some hd) :
    hd.st.dom = [] ∧ hd.st.next = st.next + hd.ks.length ∧ kinds hd.ks (hd.entry.map (DE.den env)) = true ∧ ∃ ph', Sat w0 (env.sets st.next (hd.entry.map (DE.den env))) ph' hd.st a w := by
  have hnm := hs.names
  have hh := has_next hdom
  unfold mkHead at hm
  simp only at hm
  split at hm
  · cases hm
  · rename_i ss rs es ks n hT
    split at hm
    · rename_i bs hB
      simp only [Option.some.injEq] at hm
      subst hm
      have nt : ∀ (t : Nat) (s : Slot), st.tmps[t]? = some (some s) → s.all (belowB st.next) = true := hh ▸ hnm.tmps
      have nb : ∀ b ∈ st.blks, b.all (belowB st.next) = true := hh ▸ hnm.blks
      have nr : ∀ r ∈ st.rows, r.all (belowB st.next) = true := hh ▸ hnm.rows
      have nf : ∀ (t : Nat) (s : Slot), (st.tmps ++ flatBlks st.blks)[t]? = some (some s) → s.all (belowB st.next) = true := fun t s ht => by
        rcases Nat.lt_or_ge t st.tmps.length with hlt | hge
        · rw [List.getElem?_append_left hlt] at ht
          exact nt t s ht
        · rw [List.getElem?_append_right hge] at ht
          exact flatBlks_names (fun b hb => by have := nb b hb; simp only [Blk.all, Bool.and_eq_true] at this; exact this.2) _ _ ht
      obtain ⟨hn1, hk1, vs, hvl, hH1⟩ := headTmps_spec (B := w0.heap.size) (w := w) (env := env) (ph := ph) hT (Nat.le_refl _) nf nr
      have hlen := kinds_len hk1
      simp only [List.length_map] at hlen
      refine ⟨rfl, by simp; omega, hk1, { ph with v := fun k => if st.next ≤ k then (match vs[k - st.next]? with | some v => v | none => ph.v k) else ph.v k }, ?_⟩
      have hE : NamedE env (env.sets st.next (es.map (DE.den env))) st.next es := fun j d hj => Env.sets_in (by rw [List.getElem?_map, hj]; rfl)
      have hag : Agree (belowB st.next) env (env.sets st.next (es.map (DE.den env))) ph { ph with v := fun k => if st.next ≤ k then (match vs[k - st.next]? with | some v => v | none => ph.v k) else ph.v k } := by
        refine ⟨fun k hk => ?_, fun _ _ => rfl, fun k hk => ?_⟩
        · simp only [belowB, decide_eq_true_eq] at hk
          rw [Env.sets_lt hk]
        · simp only [belowB, decide_eq_true_eq] at hk
          simp only
          rw [if_neg (by omega)]
      have hT' := hH1 _ _ ⟨hE, fun j v hj => by simp [hj]⟩ hag
      have hp : Pt env _ ph _ (belowB n) ss (st.tmps ++ flatBlks st.blks) := hT'.slot
      rw [← List.take_append_drop st.tmps.length ss] at hp
      have hsl := hT'.len
      simp only [List.length_append] at hsl
      have htl : (ss.take st.tmps.length).length = st.tmps.length := by simp; omega
      have hpt := hp.left htl
      have hB' := unflat_spec hB (by simp; omega) (hp.right htl) (fun b hb => by
        have := nb b hb
        simp only [Blk.all, Bool.and_eq_true] at this
        exact below_mono (by omega) _ this.1)
      refine ⟨⟨?_, fun t s ht => ?_⟩, ⟨?_, ?_, ?_, ?_, ?_⟩, hs.below, hs.defers, ⟨?_, ?_, ?_⟩⟩
      · rw [htl]; exact hs.tmps.1
      · obtain ⟨s0, h1, h2, _⟩ := hpt t s ht
        rw [h2]
        exact hs.tmps.2 t s0 h1
      · intro b hb
        obtain ⟨b0, hb0, e1, e2, e3, _⟩ := hB' b hb
        have := hs.mem.blk b0 hb0
        unfold BlkOk at *
        rw [e3, e1, e2]
        exact this
      · intro b hb b' hb' hne
        obtain ⟨b0, hb0, e1, _⟩ := hB' b hb
        obtain ⟨b0', hb0', e1', _⟩ := hB' b' hb'
        rw [e1, e1'] at hne ⊢
        exact hs.mem.bb b0 hb0 b0' hb0' hne
      · exact hT'.row hs.mem.row
      · intro b hb r hr hg e
        obtain ⟨b0, hb0, e1, _⟩ := hB' b hb
        obtain ⟨r0, hr0, hg0, hf0⟩ := hT'.from' r hr hg _ e
        rw [e1] at hf0
        exact hs.mem.br b0 hb0 r0 hr0 hg0 hf0
      · exact hT'.rr hs.mem.rr
      · intro t s ht
        obtain ⟨_, _, _, h3⟩ := hpt t s ht
        rw [has_next rfl]
        exact h3
      · intro b hb
        obtain ⟨_, _, _, _, _, h4⟩ := hB' b hb
        rw [has_next rfl]
        exact h4
      · intro r hr
        rw [has_next rfl]
        exact hT'.names r hr
    · cases hm

end Go.Sx
