/- The symbolic executor: back to the head of a loop. -/
import Derived.Test.YtjcomklheilfjaaSxF2
set_option linter.unusedVariables false
set_option linter.unusedSimpArgs false
namespace Go.Sx
open Go.RowKit

variable {env env' : Env} {ph ph' : Ph} {P : Program}

def orgV (ph : Ph) : Option Nat → Triple
  | some r => ph.v r
  | none => (none, 0, 0)
def NamedL (env env' : Env) (ph ph' : Ph) (id : Nat) (L : List (DE × Option Nat)) : Prop :=
  ∀ (j : Nat) (x : DE × Option Nat), L[j]? = some x → env' (id + j) = x.1.den env ∧ ph'.v (id + j) = orgV ph x.2

theorem NamedL.append {id : Nat} {L L' : List (DE × Option Nat)} (h : NamedL env env' ph ph' id (L ++ L')) : NamedL env env' ph ph' id L ∧ NamedL env env' ph ph' (id + L.length) L' :=
  ⟨fun j d hj => h j d (by rw [List.getElem?_append_left (List.getElem?_eq_some_iff.1 hj).1]; exact hj),
   fun j d hj => by rw [Nat.add_assoc]; exact h _ d (by rw [List.getElem?_append_right (by omega)]; simpa using hj)⟩

theorem backLeaf_spec {base id : Nat} {h l : Leaf} {L : List (DE × Option Nat)} (hb : backLeaf base id h l = some L) (hn : NamedL env env' ph ph' id L) (hag : Agree (belowB base) env env' ph ph') : h.den env' ph' = l.den env ph := by
  unfold backLeaf at hb
  split at hb
  · rename_i hc
    obtain ⟨rfl, hall⟩ := hc
    exact (Leaf.den_congr hag hall).symm
  · split at hb
    · rename_i k j k' e
      split at hb
      · rename_i hc
        obtain ⟨rfl, rfl⟩ := hc
        simp only [Option.some.injEq] at hb; subst hb
        have := (hn 0 _ rfl).1
        simp only [Nat.add_zero, DE.den] at this
        simp [Leaf.den, IE.den, this, DV.int]
      · cases hb
    · rename_i j e
      split at hb
      · rename_i hc
        subst hc
        simp only [Option.some.injEq] at hb; subst hb
        have := (hn 0 _ rfl).1
        simp only [Nat.add_zero, DE.den] at this
        simp [Leaf.den, BE.den, this, DV.bool]
      · cases hb
    · cases hb

theorem backSlot_spec {base id : Nat} {st : St} {h s : Option Slot} {L : List (DE × Option Nat)} (hb : backSlot base st id h s = some L) (hn : NamedL env env' ph ph' id L) (hag : Agree (belowB base) env env' ph ph') :
    ∀ x, h = some x → ∃ x0, s = some x0 ∧ x.den env' ph' = x0.den env ph := by
  intro x hx
  subst hx
  simp only [backSlot] at hb
  split at hb
  · rename_i hc
    obtain ⟨rfl, hall⟩ := hc
    exact ⟨x, rfl, (Slot.den_congr hag hall).symm⟩
  · split at hb
    · rename_i j r
      split at hb
      · rename_i hc
        subst hc
        split at hb
        · simp only [Option.some.injEq] at hb; subst hb
          have := (hn 0 _ rfl).2
          simp only [Nat.add_zero, orgV] at this
          exact ⟨_, rfl, by simp [Slot.den, BE.den, SV.den, V1.den, Leaf.den, Ph.val, this]⟩
        · cases hb
      · cases hb
    · rename_i j
      split at hb
      · rename_i hc
        subst hc
        simp only [Option.some.injEq] at hb; subst hb
        have := (hn 0 _ rfl).2
        simp only [Nat.add_zero, orgV] at this
        exact ⟨_, rfl, by simp [Slot.den, BE.den, SV.den, V1.den, Leaf.den, Ph.val, this]⟩
      · cases hb
    · exact ⟨_, rfl, by simp [Slot.den, BE.den, SV.den, V1.den, backLeaf_spec hb hn hag]⟩
    · cases hb

theorem backTmps_spec {base : Nat} {st : St} : ∀ {hs ss : List (Option Slot)} {id : Nat} {L : List (DE × Option Nat)}, backTmps base st id hs ss = some L → NamedL env env' ph ph' id L → Agree (belowB base) env env' ph ph' →
    hs.length = ss.length ∧ ∀ (j : Nat) (x : Slot), hs[j]? = some (some x) → ∃ x0, ss[j]? = some (some x0) ∧ x.den env' ph' = x0.den env ph := by
  intro hs
  induction hs with
  | nil => intro ss id L h hn hag; cases ss with
    | nil => exact ⟨rfl, fun j x hj => by simp at hj⟩
    | cons l ls => simp [backTmps] at h
  | cons y hs ih => intro ss id L h hn hag; cases ss with
    | nil => simp [backTmps] at h
    | cons s ss =>
      simp only [backTmps] at h
      split at h
      · rename_i d hd
        split at h
        · rename_i ds hds
          simp only [Option.some.injEq] at h; subst h
          obtain ⟨n1, n2⟩ := hn.append
          obtain ⟨e1, e2⟩ := ih hds n2 hag
          refine ⟨by simp [e1], fun j x hj => ?_⟩
          cases j with
          | zero =>
            simp only [List.getElem?_cons_zero, Option.some.injEq] at hj
            obtain ⟨x0, h1, h2⟩ := backSlot_spec hd n1 hag x hj
            exact ⟨x0, by simp [h1], h2⟩
          | succ j => simpa using e2 j x (by simpa using hj)
        · cases h
      · cases h

theorem sameShape_spec {q : Nat → Bool} {base : Nat} {st : St} : ∀ {hs bs : List Blk}, sameShape base st hs = some bs → Pt env env' ph ph' q (flatBlks hs) (flatBlks bs) →
    ∀ x ∈ hs, x.id < base ∧ ∃ b ∈ st.blks, b.id = x.id ∧ b.ty = x.ty ∧ x.cells.map (Leaf.den env' ph') = b.cells.map (Leaf.den env ph) := by
  intro hs
  induction hs with
  | nil => intro bs h hp x hx; simp at hx
  | cons y hs ih =>
    intro bs h hp x hx
    simp only [sameShape] at h
    split at h
    · rename_i b bs1 hb hbs
      split at h
      · rename_i hc
        simp only [Option.some.injEq] at h; subst h
        simp only [flatBlks] at hp
        have hl : (y.cells.map asSlot).length = (b.cells.map asSlot).length := by simp [hc.2.2]
        rcases List.mem_cons.1 hx with rfl | hx
        · obtain ⟨hm, he⟩ := getBlk_mem hb
          refine ⟨hc.2.1, b, hm, he, hc.1, ?_⟩
          have hlo : leavesOf (x.cells.map asSlot) = some x.cells := by
            clear hp hl hb hx hc ih hbs he hm
            induction x.cells with
            | nil => rfl
            | cons c cs ih => simp only [List.map_cons, leavesOf, asSlot, leafOf]; rw [ih]
          exact (leavesOf_spec hlo (by simp [hc.2.2]) (hp.left hl)).1
        · exact ih hbs (hp.right hl) x hx
      · cases h
    · cases h

theorem nodupB_spec : ∀ {l : List Nat}, nodupB l = true → l.Nodup := by
  intro l
  induction l with
  | nil => intro _; exact List.nodup_nil
  | cons x l ih =>
    intro h
    simp only [nodupB, Bool.and_eq_true, Bool.not_eq_true', List.contains_eq_mem, decide_eq_false_iff_not] at h
    exact List.nodup_cons.2 ⟨h.1, ih h.2⟩

theorem origins_inj : ∀ {L : List (DE × Option Nat)} {i j r : Nat} {d d' : DE}, (origins L).Nodup → L[i]? = some (d, some r) → L[j]? = some (d', some r) → i = j := by
  intro L
  induction L with
  | nil => intro i j r d d' _ h; simp at h
  | cons x L ih =>
    intro i j r d d' hnd hi hj
    have hmem : ∀ {j : Nat} {d : DE}, L[j]? = some (d, some r) → r ∈ origins L := fun h => by
      unfold origins
      exact List.mem_filterMap.2 ⟨_, List.mem_of_getElem? h, rfl⟩
    have hnd' : (origins L).Nodup := by
      unfold origins at hnd ⊢
      rw [List.filterMap_cons] at hnd
      split at hnd
      · exact hnd
      · exact (List.nodup_cons.1 hnd).2
    have hx : ∀ {d : DE}, x = (d, some r) → r ∉ origins L := fun e => by
      subst e
      unfold origins at hnd
      rw [List.filterMap_cons] at hnd
      exact (List.nodup_cons.1 hnd).1
    cases i with
    | zero =>
      simp only [List.getElem?_cons_zero, Option.some.injEq] at hi
      cases j with
      | zero => rfl
      | succ j => exact absurd (hmem (by simpa using hj)) (hx hi)
    | succ i => cases j with
      | zero =>
        simp only [List.getElem?_cons_zero, Option.some.injEq] at hj
        exact absurd (hmem (by simpa using hi)) (hx hj)
      | succ j => have := ih hnd' (by simpa using hi) (by simpa using hj); omega

theorem deKinds_den : ∀ {ks : List CT} {ds : List DE}, deKinds ks ds = true → kinds ks (ds.map (DE.den env)) = true := by
  intro ks
  induction ks with
  | nil => intro ds h; cases ds <;> simp_all [deKinds, kinds]
  | cons c ks ih => intro ds h; cases ds with
    | nil => simp [deKinds] at h
    | cons d ds =>
      simp only [deKinds, Bool.and_eq_true] at h
      simp only [List.map_cons, kinds, ih h.2, Bool.and_true]
      have := h.1
      cases c with
      | c k => cases k <;> cases d <;> simp_all [deKind, DE.den, DV.kind]
      | s e ks => cases d <;> simp_all [deKind, DE.den, DV.kind]

/-- Back to the head. -/
theorem back_sound {w0 w : World} {base : Nat} {ks : List CT} {h st : St} {a : Act} {vals : List DE} (hs : Sat w0 env ph st a w) (hh : Scoped h) (hb : back base ks h st = some vals) :
    kinds ks (vals.map (DE.den env)) = true ∧ ∃ ph', Sat w0 (env.sets base (vals.map (DE.den env))) ph' h a w := by
  unfold back at hb
  split at hb
  · rename_i bs hsh
    split at hb
    · rename_i L hL
      split at hb
      · rename_i hc
        simp only [Option.some.injEq] at hb
        subst hb
        simp only [Bool.and_eq_true, decide_eq_true_eq] at hc
        obtain ⟨htl, ⟨⟨hrows, hnd⟩, horg⟩, hkd⟩ := hc
        have hnd := nodupB_spec hnd
        obtain ⟨env', he'⟩ : ∃ env', env' = env.sets base ((L.map (·.1)).map (DE.den env)) := ⟨_, rfl⟩
        obtain ⟨ph', hp'⟩ : ∃ ph' : Ph, ph' = { ph with v := fun k => if base ≤ k then (match L[k - base]? with | some x => orgV ph x.2 | none => ph.v k) else ph.v k } := ⟨_, rfl⟩
        refine ⟨deKinds_den hkd, ph', ?_⟩
        rw [← he']
        have hag : Agree (belowB base) env env' ph ph' := by
          refine ⟨fun k hk => ?_, fun _ _ => by rw [hp'], fun k hk => ?_⟩
          · simp only [belowB, decide_eq_true_eq] at hk
            rw [he', Env.sets_lt hk]
          · simp only [belowB, decide_eq_true_eq] at hk
            rw [hp']
            simp only
            rw [if_neg (by omega)]
        have hnm : NamedL env env' ph ph' base L := fun j x hj => by
          refine ⟨?_, ?_⟩
          · rw [he']
            exact Env.sets_in (by rw [List.getElem?_map, List.getElem?_map, hj]; rfl)
          · rw [hp']
            simp [hj]
        obtain ⟨_, hall⟩ := backTmps_spec hL hnm hag
        have hp : Pt env env' ph ph' h.has (h.tmps ++ flatBlks h.blks) (st.tmps ++ flatBlks bs) := fun j s hj => by
          obtain ⟨s0, h1, h2⟩ := hall j s hj
          refine ⟨s0, h1, h2, ?_⟩
          rcases Nat.lt_or_ge j h.tmps.length with hlt | hge
          · rw [List.getElem?_append_left hlt] at hj
            exact hh.tmps j s hj
          · rw [List.getElem?_append_right hge] at hj
            exact flatBlks_names (fun b hb => by have := hh.blks b hb; simp only [Blk.all, Bool.and_eq_true] at this; exact this.2) _ _ hj
        have hslots := hp.left htl
        have hblks := sameShape_spec hsh (hp.right htl)
        -- the rows
        have hrow : ∀ x ∈ h.rows, x.g.den env' = true → RowOk w0.heap.size env' ph' x w ∧ ∀ k, x.foot env' ph' = some k → ∃ y ∈ st.rows, y.g.den env = true ∧ y.foot env ph = some k ∧ (x.own = true → y.own = true) ∧
            ((x.id < base ∧ y.id = x.id) ∨ (base ≤ x.id ∧ ∃ lv, L[x.id - base]? = some (lv, some y.id))) := by
          intro x hx hg
          have hbr := List.all_eq_true.1 hrows x hx
          unfold backRow at hbr
          split at hbr
          · rename_i hlt
            simp only [Bool.and_eq_true, decide_eq_true_eq] at hbr
            obtain ⟨hgr, hall⟩ := hbr
            have hm := (getRow_mem hgr).1
            simp only [Row.all, Bool.and_eq_true] at hall
            have e1 : ph'.val x.id = ph.val x.id := by simp only [Ph.val, ← hag.v _ hall.1]
            have e2 : env' x.lv = env x.lv := (hag.e _ hall.2.1).symm
            have e3 : x.g.den env = true := by rw [BE.den_congr hag.e hall.2.2]; exact hg
            have ef : x.foot env' ph' = x.foot env ph := by unfold Row.foot; rw [e1, e2]
            refine ⟨?_, fun k hk => ⟨x, hm, e3, by rw [← ef]; exact hk, fun h => h, .inl ⟨hlt, rfl⟩⟩⟩
            have := hs.mem.row x hm e3
            unfold RowOk at *
            rw [e1, e2]
            exact this
          · rename_i hge
            simp only [Bool.and_eq_true, decide_eq_true_eq] at hbr
            obtain ⟨⟨⟨hlv, hown⟩, hgt⟩, hL'⟩ := hbr
            have hid : base + (x.id - base) = x.id := by omega
            split at hL'
            · rename_i lv r hLx
              split at hL'
              · rename_i y hy
                simp only [Bool.and_eq_true, decide_eq_true_eq] at hL'
                obtain ⟨⟨⟨⟨yo, yg⟩, ye⟩, yk⟩, yl⟩ := hL'
                obtain ⟨hm, rfl⟩ := getRow_mem hy
                obtain ⟨f1, f2⟩ := hnm _ _ hLx
                rw [hid] at f1 f2
                simp only [DE.den, orgV] at f1 f2
                have yg' : y.g.den env = true := by rw [yg]; rfl
                have e1 : ph'.val x.id = ph.val y.id := by simp only [Ph.val, f2]
                obtain ⟨h0, ho⟩ := hs.mem.row y hm yg'
                rw [if_pos yo] at ho
                refine ⟨⟨by rw [← yk]; exact h0, ?_⟩, fun k hk => ⟨y, hm, yg', ?_, fun _ => yo, .inr ⟨by omega, .l lv, hLx⟩⟩⟩
                · rw [if_pos hown, e1, hlv, f1, ← yk, ← ye]
                  simp only [DV.list]
                  rw [← yl]
                  exact ho
                · simp only [Row.foot, hown, Bool.true_or, if_true, e1] at hk
                  simp [Row.foot, yo, hk]
              · cases hL'
            · rename_i hLx
              simp only [decide_eq_true_eq] at hL'
              obtain ⟨f1, f2⟩ := hnm _ _ hLx
              rw [hid] at f1 f2
              simp only [DE.den, orgV] at f1 f2
              have e1 : ph'.val x.id = .slice none 0 0 := by simp only [Ph.val, f2]
              refine ⟨⟨hL', ?_⟩, fun k hk => ?_⟩
              · rw [if_pos hown, e1, hlv, f1]
                exact nil_own w _ _ _
              · simp only [Row.foot, hown, Bool.true_or, if_true, e1, Value.ownBlock] at hk
                cases hk
            · cases hL'
        have horig : ∀ x ∈ h.rows, ∀ x' ∈ h.rows, x.id ≠ x'.id → ∀ y y' : Row, ((x.id < base ∧ y.id = x.id) ∨ (base ≤ x.id ∧ ∃ lv, L[x.id - base]? = some (lv, some y.id))) → ((x'.id < base ∧ y'.id = x'.id) ∨ (base ≤ x'.id ∧ ∃ lv, L[x'.id - base]? = some (lv, some y'.id))) → y.id ≠ y'.id := by
          intro x hx x' hx' hne y y' h1 h2 he
          have hold : ∀ z ∈ h.rows, z.id < base → ∀ (j : Nat) (lv : DE), L[j]? ≠ some (lv, some z.id) := fun z hz hzb j lv hj => by
            have hm : z.id ∈ origins L := List.mem_filterMap.2 ⟨_, List.mem_of_getElem? hj, rfl⟩
            have := List.all_eq_true.1 horg _ hm
            simp only [Bool.not_eq_true', List.any_eq_false, Bool.and_eq_true, decide_eq_true_eq, beq_iff_eq, not_and] at this
            exact this z hz hzb rfl
          rcases h1 with ⟨a1, a2⟩ | ⟨a1, lv, a2⟩ <;> rcases h2 with ⟨b1, b2⟩ | ⟨b1, lv', b2⟩
          · exact hne (by rw [← a2, ← b2, he])
          · exact hold x hx a1 _ lv' (by rw [b2, ← he, a2])
          · exact hold x' hx' b1 _ lv (by rw [a2, he, b2])
          · rw [he] at a2
            have := origins_inj hnd a2 b2
            exact hne (by omega)
        refine ⟨⟨?_, fun t s ht => ?_⟩, ⟨?_, ?_, fun r hr hg => (hrow r hr hg).1, ?_, ?_⟩, hs.below, hs.defers, hh⟩
        · rw [htl]; exact hs.tmps.1
        · obtain ⟨s0, h1, h2, _⟩ := hslots t s ht
          rw [h2]
          exact hs.tmps.2 t s0 h1
        · intro b hb
          obtain ⟨hlt, b0, hb0, e1, e2, e3⟩ := hblks b hb
          have hr : ph'.r b.id = ph.r b.id := by rw [hp']
          have := hs.mem.blk b0 hb0
          unfold BlkOk at *
          rw [e3, hr, ← e2, ← e1]
          exact this
        · intro b hb b' hb' hne
          obtain ⟨_, b0, hb0, e1, _⟩ := hblks b hb
          obtain ⟨_, b0', hb0', e1', _⟩ := hblks b' hb'
          rw [hp']
          simp only
          rw [← e1, ← e1']
          exact hs.mem.bb b0 hb0 b0' hb0' (by rw [e1, e1']; exact hne)
        · intro b hb r hr hg e
          obtain ⟨_, b0, hb0, e1, _⟩ := hblks b hb
          obtain ⟨y, hy, yg, yf, _⟩ := (hrow r hr hg).2 _ e
          refine hs.mem.br b0 hb0 y hy yg ?_
          rw [yf, hp', e1]
        · intro r hr r' hr' hne ho hg hg' k hk hk'
          obtain ⟨y, hy, yg, yf, yo, yi⟩ := (hrow r hr hg).2 k hk
          obtain ⟨y', hy', yg', yf', _, yi'⟩ := (hrow r' hr' hg').2 k hk'
          exact hs.mem.rr y hy y' hy' (horig r hr r' hr' hne y y' yi yi') (yo ho) yg yg' k yf yf'
      · cases hb
    · cases hb
  · cases hb

end Go.Sx
