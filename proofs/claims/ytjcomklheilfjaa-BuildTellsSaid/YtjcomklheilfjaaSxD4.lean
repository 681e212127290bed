/- The symbolic executor: loud operations. -/
import Derived.Test.YtjcomklheilfjaaSxD3
set_option linter.unusedVariables false
set_option linter.unusedSimpArgs false
namespace Go.Sx
open Go.RowKit

variable {env : Env} {ph : Ph} {P : Program}

/-! ### Contracts, and what a tree asks -/
structure Contract where
  sig : Sig
  pre : List DV → Prop
  rel : List DV → List DV → Prop

def DV.kind : CT → DV → Bool
  | .c (.i _), .i _ => true
  | .c .b, .b _ => true
  | .s _ _, .l _ => true
  | _, _ => false
def kinds : List CT → List DV → Bool
  | [], [] => true
  | c :: cs, d :: ds => d.kind c && kinds cs ds
  | _, _ => false

abbrev Known := FuncId → Option Contract

def Ev.holds (Γ : Known) (e : Ev) (k : Env → Prop) (env : Env) : Prop :=
  match e with
  | .need p => p.den env = true ∧ k env
  | .call f g args res base => ∃ c, Γ f = some c ∧ (g.den env = true → c.pre (args.map (DE.den env))) ∧
      ∀ rs, kinds (cts res) rs = true → (g.den env = true → c.rel (args.map (DE.den env)) rs) → k (env.sets base rs)
  | .letl id op => k (env.set id (.l (op.den env)))
def evsHold (Γ : Known) : List Ev → (Env → Prop) → Env → Prop
  | [], k, env => k env
  | e :: es, k, env => e.holds Γ (evsHold Γ es k) env

theorem evsHold_append {Γ : Known} {k : Env → Prop} : ∀ {es es' : List Ev} {env : Env}, evsHold Γ (es ++ es') k env = evsHold Γ es (evsHold Γ es' k) env := by
  intro es
  induction es with
  | nil => intro es' env; rfl
  | cons e es ih =>
    intro es' env
    have : evsHold Γ (es ++ es') k = evsHold Γ es (evsHold Γ es' k) := funext fun _ => ih
    simp only [List.cons_append, evsHold, this]

/-! ### The block that a loud operation writes -/
def leafW (ph : Ph) : Leaf → Option Nat
  | .p id _ => some (ph.r id)
  | .pi id _ _ _ _ => some (ph.r id)
  | .ep row _ _ _ => (ph.val row).ownBlock
  | _ => none
def opW (st : St) (ph : Ph) : Op → Option Nat
  | .store _ a _ => (opndL st (.c true) a).bind (leafW ph)
  | .call { callee := .builtin .append, args, .. } => match args.toList with
    | x :: _ => match opndL st (.c true) x with
      | some (.s row) => (ph.val row).ownBlock
      | _ => none
    | [] => none
  | _ => none

/-- What an operation yields. -/
def Yield (o : Oper) (a a' : Act) : Next → Prop
  | .value v => a' = a.put o.dst v
  | .skip => a' = a.put o.dst undef
  | _ => False

def Loud (Γ : Known) (P : Program) (w0 : World) (env : Env) (ph : Ph) (st st' : St) (o : Oper) (a : Act) (w : World) (k : Env → Prop) : Prop :=
  ∃ nx w' a' env' ph', (execOp a.eval o).run P w = .ok nx w' ∧ Yield o a a' nx ∧ Step w0 env env' ph ph' st st' a' w w' (opW st ph o.op) ∧ k env'

theorem putSel_spec {x : IE} {l : Leaf} {sz off : Nat} : ∀ {n j : Nat} {cells r : List Leaf} {o : Nat}, 0 < sz → putSel x l sz cells o j n = some r → ∀ i : Nat, x.den env = ((j + i : Nat) : Int) → i < n →
    r.length = cells.length ∧ o + i * sz < cells.length ∧ r.map (Leaf.den env ph) = (cells.map (Leaf.den env ph)).set (o + i * sz) (l.den env ph) := by
  intro n
  induction n with
  | zero => intro j cells r o _ _ i _ hi; omega
  | succ n ih =>
    intro j cells r o hsz h i hx hi
    simp only [putSel] at h
    split at h
    · rename_i k a k' b hc
      split at h
      · rename_i hk; subst hk
        have hlt : o < cells.length := (List.getElem?_eq_some_iff.1 hc).1
        cases i with
        | zero =>
          -- the rest is as it was
          have rest : ∀ {n j : Nat} {cells r : List Leaf} {o : Nat}, putSel x (.i k b) sz cells o j n = some r → x.den env < (j : Int) → r.length = cells.length ∧ r.map (Leaf.den env ph) = cells.map (Leaf.den env ph) := by
            intro n
            induction n with
            | zero => intro j cells r o h _; simp only [putSel, Option.some.injEq] at h; subst h; exact ⟨rfl, rfl⟩
            | succ n ih2 =>
              intro j cells r o h hlt
              simp only [putSel] at h
              split at h
              · rename_i k2 a2 k3 b3 hc2 heq
                simp only [Leaf.i.injEq] at heq
                obtain ⟨rfl, rfl⟩ := heq
                split at h
                · rename_i hk2; subst hk2
                  obtain ⟨e1, e2⟩ := ih2 h (by omega)
                  refine ⟨by simpa using e1, ?_⟩
                  rw [e2, List.map_set]
                  have hne : x.den env ≠ (j : Int) := by omega
                  have : (Leaf.i k2 (.ifeq x j b a2)).den env ph = (Leaf.i k2 a2).den env ph := by simp [Leaf.den, IE.den, hne]
                  rw [this]
                  apply List.ext_getElem?
                  intro m
                  rw [List.getElem?_set]
                  split
                  · rename_i hm; subst hm
                    obtain ⟨hl2, he2⟩ := List.getElem?_eq_some_iff.1 hc2
                    simp [hl2, he2]
                  · rfl
                · cases h
              · cases h
          simp only [Nat.add_zero] at hx
          obtain ⟨e1, e2⟩ := rest h (by omega)
          refine ⟨by simpa using e1, by simpa using hlt, ?_⟩
          rw [e2, List.map_set]
          simp [Leaf.den, IE.den, hx]
        | succ i =>
          obtain ⟨e1, e2, e3⟩ := ih hsz h i (by rw [hx]; congr 1; omega) (by omega)
          have hs : o + (i + 1) * sz = o + sz + i * sz := by rw [Nat.add_mul]; omega
          refine ⟨by simpa using e1, by simpa [hs] using e2, ?_⟩
          rw [e3, hs, List.map_set]
          have hne : x.den env ≠ (j : Int) := by rw [hx]; omega
          have : (Leaf.i k (.ifeq x j b a)).den env ph = (Leaf.i k a).den env ph := by simp [Leaf.den, IE.den, hne]
          rw [this]
          congr 1
          apply List.ext_getElem?
          intro m
          rw [List.getElem?_set]
          split
          · rename_i hm; subst hm
            obtain ⟨hl2, he2⟩ := List.getElem?_eq_some_iff.1 hc
            simp [hl2, he2]
          · rfl
      · cases h
    · cases h

theorem needT {Γ : Known} {p : BE} {es : List Ev} {k : Env → Prop} (h : evsHold Γ (.need p :: es) k env) : p.den env = true ∧ evsHold Γ es k env := h

theorem trueDen : (BE.c true).den env = true := rfl

/-- A row is changed. -/
theorem rowput_loud {Γ : Known} {w0 w w' : World} {st : St} {a : Act} {o : Oper} {t : TypeId} {x y : Operand} {v : V1} {key : Nat} {k : Env → Prop} {r : Row} {sz j g cap : Nat} {z : IE} {op : LOp} {xs' : List (List Int)} (hs : Sat w0 env ph st a w) (ho : o.op = .store t x y)
    (hl : opndL st (.c true) x = some (.ep r.id sz z j)) (hmem : r ∈ st.rows) (hown : r.own = true) (hgd : r.g.den env = true)
    (hfree : st.free key 1 = true) (hrow : RowOk w0.heap.size env ph r w) (hval : ph.val r.id = .slice (some ⟨g, 0, none⟩) (env r.lv).list.length cap) (hBg : w0.heap.size ≤ g) (hxs' : op.den env = xs') (hxl : xs'.length = (env r.lv).list.length)
    (hst : (Instr.storeAt t ((Leaf.ep r.id sz z j).den env ph) (v.den env ph)).run P w = .ok () w') (hnew : w'.ownsRow w0.heap.size r.e r.ks.length (.slice (some ⟨g, 0, none⟩) (env r.lv).list.length cap) (env r.lv).list.length (flatRows r.ks xs')) (hgr : w.grownBy w' (some g))
    (hrun : ∀ w', (Instr.storeAt t ((Leaf.ep r.id sz z j).den env ph) (v.den env ph)).run P w = .ok () w' → (execOp a.eval o).run P w = .ok .skip w') (hk : evsHold Γ [.letl key op] k env) :
    Loud Γ P w0 env ph st ({ st.claim key 1 with rows := insRow { r with lv := key } (st.rows.filter fun z => decide (z.id ≠ r.id)) }.put o.dst noSlot) o a w k := by
  have hkey : st.has key = false := free_not_has hfree (Nat.le_refl _) (by omega)
  have hne : ∀ k, st.has k = true → k ≠ key := fun k hk e => by rw [e, hkey] at hk; cases hk
  have hag : Agree st.has env (env.set key (.l xs')) ph ph := ⟨fun k hk => by simp [Env.set, hne k hk], fun _ _ => rfl, fun _ _ => rfl⟩
  have hs' := hs.congr hag
  have hmono : ∀ k, st.has k = true → (st.claim key 1).has k = true := fun k hk => has_mono hk
  have hnames := fun (q : Row) (hq : q ∈ st.rows) => by
    have := hs.names.rows q hq
    simpa only [Row.all, Bool.and_eq_true] using this
  have hgden : ∀ q ∈ st.rows, q.g.den (env.set key (.l xs')) = q.g.den env := fun q hq => (BE.den_congr hag.e (hnames q hq).2.2).symm
  have hfoot : ∀ q ∈ st.rows, q.foot (env.set key (.l xs')) ph = q.foot env ph := fun q hq => by
    unfold Row.foot
    simp only [Env.set, hne _ (hnames q hq).2.1, if_false]
  have hfootr : r.foot env ph = some g := by simp [Row.foot, hown, hval, Value.ownBlock]
  have hmemf : ∀ q ∈ st.rows.filter (fun z => decide (z.id ≠ r.id)), q ∈ st.rows ∧ q.id ≠ r.id := fun q hq => by
    have := List.mem_filter.1 hq
    exact ⟨this.1, by simpa using this.2⟩
  have hk' : k (env.set key (.l xs')) := by rw [← hxs']; exact hk
  have hgB : w0.heap.size ≤ g := hBg
  have hW : opW st ph o.op = some g := by simp [ho, opW, hl, leafW, hval, Value.ownBlock]
  refine ⟨.skip, _, _, env.set key (.l xs'), ph, hrun _ hst, rfl, ?_, hk'⟩
  rw [hW]
  refine ⟨⟨?_, ?_, hs.below.grown hgr hs.below.size (fun k hk => by cases hk; exact hgB), by rw [act_put_defers]; exact hs.defers, ?_⟩, hag, hgr, fun k hk => by rw [has_put]; exact hmono k hk⟩
  · exact put_ok (st := { st.claim key 1 with rows := insRow { r with lv := key } (st.rows.filter fun z => decide (z.id ≠ r.id)) }) hs'.tmps noSlot_den.symm
  · rw [put_blks, put_rows]
    have hbg : ∀ b ∈ st.blks, some (ph.r b.id) ≠ some g := fun b hb e => hs.mem.br b hb r hmem hgd (by rw [hfootr, ← e])
    have hother : ∀ q ∈ st.rows, q.id ≠ r.id → q.g.den env = true → q.foot env ph ≠ some g := fun q hq hne1 hq1 => hs.mem.rr r hmem q hq (fun e => hne1 e.symm) hown hgd hq1 g hfootr
    have hfoot' : ({ r with lv := key } : Row).foot (env.set key (.l xs')) ph = some g := by simp [Row.foot, hown, hval, Value.ownBlock]
    refine ⟨fun b hb => (hs'.mem.blk b hb).grown hgr (hbg b hb), hs'.mem.bb, fun q hq hq1 => ?_, fun b hb q hq hq1 => ?_, fun q hq q' hq' hid ho1 hq1 hq2 => ?_⟩
    · rcases mem_insRow.1 hq with rfl | hq
      · refine ⟨hrow.1, ?_⟩
        rw [if_pos hown]
        simp only [hval, Env.set, if_true, DV.list, hxl]
        exact hnew
      · obtain ⟨hq0, hqne⟩ := hmemf q hq
        rw [hgden q hq0] at hq1
        exact (hs'.mem.row q hq0 (by rw [hgden q hq0]; exact hq1)).grown hgr (fun k hk e => by
          rw [hfoot q hq0] at hk
          simp only [Option.some.injEq] at e
          subst e
          exact hother q hq0 hqne hq1 hk)
    · rcases mem_insRow.1 hq with rfl | hq
      · rw [hfoot']; exact fun e => hbg b hb e.symm
      · exact hs'.mem.br b hb q (hmemf q hq).1 hq1
    · rcases mem_insRow.1 hq with rfl | hq <;> rcases mem_insRow.1 hq' with rfl | hq'
      · exact absurd rfl hid
      · intro k hk hk'
        obtain ⟨hq0, hqne⟩ := hmemf q' hq'
        rw [hfoot'] at hk
        simp only [Option.some.injEq] at hk
        subst hk
        rw [hfoot q' hq0] at hk'
        rw [hgden q' hq0] at hq2
        exact hother q' hq0 hqne hq2 hk'
      · intro k hk hk'
        obtain ⟨hq0, hqne⟩ := hmemf q hq
        rw [hfoot'] at hk'
        simp only [Option.some.injEq] at hk'
        subst hk'
        rw [hfoot q hq0] at hk
        rw [hgden q hq0] at hq1
        exact hother q hq0 hqne hq1 hk
      · exact hs'.mem.rr q (hmemf q hq).1 q' (hmemf q' hq').1 hid ho1 hq1 hq2
  · refine ⟨?_, ?_, ?_⟩
    · exact put_known (st := { st.claim key 1 with rows := insRow { r with lv := key } (st.rows.filter fun z => decide (z.id ≠ r.id)) }) (fun t s ht => Slot.all_mono hmono (hs.names.tmps t s ht)) noSlot_all
    · rw [put_blks, has_put]
      exact fun b hb => Blk.all_mono hmono (hs.names.blks b hb)
    · rw [put_rows, has_put]
      intro q hq
      rcases mem_insRow.1 hq with rfl | hq
      · have hn := hnames r hmem
        simp only [Row.all, Bool.and_eq_true]
        have hk1 : (st.claim key 1).has key = true := has_new (Nat.le_refl _) (by omega)
        exact ⟨hmono _ hn.1, hk1, BE.all_mono hmono hn.2.2⟩
      · exact Row.all_mono hmono (hs.names.rows q (hmemf q hq).1)

/-- A cell of a row is written. -/
theorem rowset_loud {Γ : Known} {w0 w : World} {st : St} {a : Act} {o : Oper} {t : TypeId} {x y : Operand} {v : V1} {key : Nat} {k : Env → Prop} {r : Row} {sz j : Nat} {z e : IE} {kd : IntKind} (hs : Sat w0 env ph st a w) (ho : o.op = .store t x y)
    (hl : opndL st (.c true) x = some (.ep r.id sz z j)) (hv : opnd1 st (.c true) y = some v) (hl1 : v.leaves = [.i kd e]) (hlen : v.leaves.length = P.cellsOf t) (hmem : r ∈ st.rows) (hown : r.own = true) (hgd : r.g.den env = true)
    (hsz : r.ks.length = sz) (hkj : r.ks[j]? = some (.i kd)) (hfree : st.free key 1 = true) (h0 : 0 ≤ z.den env) (h1 : z.den env < ((env r.lv).list.length : Int))
    (hrun : ∀ w', (Instr.storeAt t ((Leaf.ep r.id sz z j).den env ph) (v.den env ph)).run P w = .ok () w' → (execOp a.eval o).run P w = .ok .skip w') (hk : evsHold Γ [.letl key (.set r.lv z j e)] k env) :
    Loud Γ P w0 env ph st ({ st.claim key 1 with rows := insRow { r with lv := key } (st.rows.filter fun z => decide (z.id ≠ r.id)) }.put o.dst noSlot) o a w k := by
  subst hsz
  have hrow := hs.mem.row r hmem hgd
  have hown' := hrow.2
  rw [if_pos hown] at hown'
  obtain ⟨ad, cap, hva, _⟩ := row_at hrow h0 h1
  have hval : ph.val r.id = .slice (some ad) (env r.lv).list.length cap := by simp [Ph.val, hva]
  rw [hval] at hown'
  have had : ∃ g, ad = ⟨g, 0, none⟩ ∧ w0.heap.size ≤ g := by
    rcases hown'.2 with ⟨e1, _⟩ | ⟨g, cap', cur, e1, hg, _⟩
    · simp at e1
    · simp only [Value.slice.injEq, Option.some.injEq] at e1
      exact ⟨g, e1.1, hg⟩
  obtain ⟨g, rfl, hBg⟩ := had
  have hj : j < r.ks.length := (List.getElem?_eq_some_iff.1 hkj).1
  obtain ⟨i, hi⟩ : ∃ i : Nat, z.den env = (i : Int) := ⟨(z.den env).toNat, by omega⟩
  have hilt : i < (env r.lv).list.length := by omega
  have hoff : i * r.ks.length + j < (env r.lv).list.length * r.ks.length := by
    have : (i + 1) * r.ks.length ≤ (env r.lv).list.length * r.ks.length := Nat.mul_le_mul_right _ (by omega)
    rw [Nat.add_mul] at this
    omega
  have hcell := hown'.cellAt (i * r.ks.length + j) hoff
  have hfz := hown'.frozenAt (i * r.ks.length + j)
  obtain ⟨hnew, hgr⟩ := hown'.stored (i * r.ks.length + j) (.int kd (e.den env))
  have hcs : ∃ u, w.cell? ⟨g, i * r.ks.length + j, none⟩ = some u := by
    rw [hcell]
    have : i * r.ks.length + j < (flatRows r.ks (env r.lv).list).length := by rw [flatRows_length]; exact hoff
    exact ⟨_, List.getElem?_eq_getElem this⟩
  obtain ⟨u, hu⟩ := hcs
  have hst : (Instr.storeAt t ((Leaf.ep r.id r.ks.length z j).den env ph) (v.den env ph)).run P w = .ok () (w.setCell ⟨g, i * r.ks.length + j, none⟩ (.int kd (e.den env))) := by
    have hc1 : 0 < P.cellsOf t := by rw [← hlen, hl1]; simp
    have hc2 : P.cellsOf t = 1 := by rw [← hlen, hl1]; rfl
    simp only [Instr.storeAt, Leaf.den, hva, Instr.sureAddr, Sem.run_bind, Sem.run_pure, Result.andThen_ok, storeVar, run_sizeOf' hc1, V1.den_cells, hl1]
    rw [if_neg (by simp [hc2])]
    simp only [List.map_cons, List.map_nil, Leaf.den, storeCells, Sem.run_bind, hi, Int.toNat_natCast, add_add', Nat.add_zero, add_at, Nat.zero_add]
    rw [run_store P w _ _ _ rfl]
    simp [stored, hu, hfz]
  refine rowput_loud hs ho hl hmem hown hgd hfree hrow hval hBg (xs' := setAt (env r.lv).list (z.den env) j (e.den env)) rfl (setAt_length ..) hst ?_ hgr hrun hk
  rw [hi, flatRows_setAt r.ks _ i j _ _ hilt hkj]
  exact hnew

/-! ### A composite literal -/
theorem leafIEs_den : ∀ {ks : List CK} {ls : List Leaf} {r : List IE} (j0 : Nat) (r0 : List Int), leafIEs ks ls = some r → r0.length = j0 → rowCells ks j0 (r0 ++ r.map (IE.den env)) = ls.map (Leaf.den env ph) := by
  intro ks
  induction ks with
  | nil => intro ls r j0 r0 h _; cases ls with
    | nil => rfl
    | cons l ls => simp [leafIEs] at h
  | cons k ks ih => intro ls r j0 r0 h hl; cases ls with
    | nil => simp [leafIEs] at h
    | cons l ls =>
      simp only [leafIEs] at h
      split at h
      · rename_i e es he hes
        simp only [Option.some.injEq] at h; subst h
        have := ih (j0 + 1) (r0 ++ [e.den env]) hes (by simp [hl])
        simp only [List.map_cons, rowCells]
        rw [show r0 ++ e.den env :: es.map (IE.den env) = r0 ++ [e.den env] ++ es.map (IE.den env) by simp, this]
        congr 1
        have hget : (r0 ++ [e.den env] ++ es.map (IE.den env)).getD j0 0 = e.den env := by
          subst hl
          simp [List.getD]
        rw [hget]
        unfold leafIE at he
        split at he
        · split at he
          · rename_i hk; subst hk
            simp only [Option.some.injEq] at he; subst he; rfl
          · cases he
        · simp only [Option.some.injEq] at he; subst he; rfl
        · simp only [Option.some.injEq] at he; subst he; rfl
        · cases he
      · cases h

theorem leafIEs_length : ∀ {ks : List CK} {ls : List Leaf} {r : List IE}, leafIEs ks ls = some r → ls.length = ks.length := by
  intro ks
  induction ks with
  | nil => intro ls r h; cases ls with
    | nil => rfl
    | cons l ls => simp [leafIEs] at h
  | cons k ks ih => intro ls r h; cases ls with
    | nil => simp [leafIEs] at h
    | cons l ls =>
      simp only [leafIEs] at h
      split at h
      · rename_i e es he hes; simp [ih hes]
      · cases h

theorem set_block : ∀ (vs cells : List Value) (off k : Nat), off + k + vs.length ≤ cells.length →
    (vs.zipIdx k).foldl (fun cs (x : Value × Nat) => cs.set (off + x.2) x.1) cells = cells.take (off + k) ++ vs ++ cells.drop (off + k + vs.length) := by
  intro vs
  induction vs with
  | nil => intro cells off k h; simp
  | cons v vs ih =>
    intro cells off k h
    simp only [List.length_cons] at h
    simp only [List.zipIdx_cons, List.foldl_cons]
    rw [ih _ off (k + 1) (by simp; omega)]
    have e1 : (cells.set (off + k) v).take (off + (k + 1)) = cells.take (off + k) ++ [v] := by
      rw [show off + (k + 1) = (off + k) + 1 by omega, List.take_succ_eq_append_getElem (by simp; omega)]
      simp [List.take_set_of_le]
    have e2 : (cells.set (off + k) v).drop (off + (k + 1) + vs.length) = cells.drop (off + k + (vs.length + 1)) := by
      rw [List.drop_set_of_lt (by omega)]
      congr 1
      omega
    rw [e1, e2]
    simp

theorem flatRows_setRow (ks : List CK) (row : List Int) : ∀ (xs : List (List Int)) (i : Nat), i < xs.length → flatRows ks (xs.modify i (fun _ => row)) = (flatRows ks xs).take (i * ks.length) ++ (rowCells ks 0 row ++ (flatRows ks xs).drop (i * ks.length + ks.length)) := by
  intro xs
  induction xs with
  | nil => intro i hi; simp at hi
  | cons r rs ih =>
    intro i hi
    have hl := rowCells_length ks 0 r
    cases i with
    | zero =>
      simp only [List.modify_zero_cons, flatRows, Nat.zero_mul, List.take_zero, List.nil_append, Nat.zero_add]
      rw [List.drop_append_of_le_length (by omega), List.drop_of_length_le (by omega), List.nil_append]
    | succ i =>
      simp only [List.modify_succ_cons, flatRows]
      rw [ih i (by simpa using hi)]
      have e : (i + 1) * ks.length = ks.length + i * ks.length := by rw [Nat.add_mul]; omega
      rw [e, List.take_append, List.drop_append, hl, show ks.length + i * ks.length - ks.length = i * ks.length by omega, show ks.length + i * ks.length + ks.length - ks.length = i * ks.length + ks.length by omega]
      rw [List.take_of_length_le (l := rowCells ks 0 r) (by omega), List.drop_of_length_le (l := rowCells ks 0 r) (by omega)]
      simp

theorem rowCells_oneCell (ks : List CK) : ∀ (j : Nat) (r : List Int), ∀ u ∈ rowCells ks j r, u.oneCell' = true := by
  induction ks with
  | nil => intro j r u hu; simp [rowCells] at hu
  | cons k ks ih =>
    intro j r u hu
    simp only [rowCells, List.mem_cons] at hu
    rcases hu with rfl | hu
    · exact CK.val_oneCell _ _
    · exact ih _ _ u hu

/-- A whole element of a row is written. -/
theorem rowsetr_loud {Γ : Known} {w0 w : World} {st : St} {a : Act} {o : Oper} {t : TypeId} {x y : Operand} {v : V1} {key : Nat} {k : Env → Prop} {r : Row} {z : IE} {es : List IE} (hs : Sat w0 env ph st a w) (ho : o.op = .store t x y)
    (hl : opndL st (.c true) x = some (.ep r.id r.ks.length z 0)) (hv : opnd1 st (.c true) y = some v) (hes : v.leaves.map (Leaf.den env ph) = rowCells r.ks 0 (es.map (IE.den env))) (hlen : v.leaves.length = P.cellsOf t) (hmem : r ∈ st.rows) (hown : r.own = true) (hgd : r.g.den env = true)
    (hfree : st.free key 1 = true) (h0 : 0 ≤ z.den env) (h1 : z.den env < ((env r.lv).list.length : Int))
    (hrun : ∀ w', (Instr.storeAt t ((Leaf.ep r.id r.ks.length z 0).den env ph) (v.den env ph)).run P w = .ok () w' → (execOp a.eval o).run P w = .ok .skip w') (hk : evsHold Γ [.letl key (.setr r.lv z es)] k env) :
    Loud Γ P w0 env ph st ({ st.claim key 1 with rows := insRow { r with lv := key } (st.rows.filter fun z => decide (z.id ≠ r.id)) }.put o.dst noSlot) o a w k := by
  have hrow := hs.mem.row r hmem hgd
  have hown' := hrow.2
  rw [if_pos hown] at hown'
  obtain ⟨ad, cap, hva, _⟩ := row_at hrow h0 h1
  have hval : ph.val r.id = .slice (some ad) (env r.lv).list.length cap := by simp [Ph.val, hva]
  rw [hval] at hown'
  obtain ⟨hxl, ⟨e1, _⟩ | ⟨g, cap', cur, e1, hg, hh, hnc, hcm, hcs, htake⟩⟩ := hown'
  · simp at e1
  · simp only [Value.slice.injEq, Option.some.injEq, true_and] at e1
    obtain ⟨rfl, rfl⟩ := e1
    obtain ⟨i, hi⟩ : ∃ i : Nat, z.den env = (i : Int) := ⟨(z.den env).toNat, by omega⟩
    have hilt : i < (env r.lv).list.length := by omega
    have hvl : (rowCells r.ks 0 (es.map (IE.den env))).length = r.ks.length := rowCells_length _ _ _
    have hb1 : i * r.ks.length + r.ks.length ≤ (env r.lv).list.length * r.ks.length := by
      have : (i + 1) * r.ks.length ≤ (env r.lv).list.length * r.ks.length := Nat.mul_le_mul_right _ (by omega)
      rw [Nat.add_mul] at this
      omega
    have hb2 : (env r.lv).list.length * r.ks.length ≤ cap * r.ks.length := Nat.mul_le_mul_right _ hnc
    have hcl : cur.toList.length = cap * r.ks.length := by simpa using hcs
    obtain ⟨w', hr, hgr, hh'⟩ := run_storeCells (P := P) g r.e (i * r.ks.length) (rowCells r.ks 0 (es.map (IE.den env))) 0 cur.toList w (by simpa using hh) (by rw [hvl, hcl]; omega) (rowCells_oneCell _ _ _)
    have hset := set_block (rowCells r.ks 0 (es.map (IE.den env))) cur.toList (i * r.ks.length) 0 (by rw [hvl, hcl]; omega)
    simp only [Nat.add_zero] at hset
    rw [hset] at hh'
    have hst : (Instr.storeAt t ((Leaf.ep r.id r.ks.length z 0).den env ph) (v.den env ph)).run P w = .ok () w' := by
      have hlk : P.cellsOf t = r.ks.length := by
        have := congrArg List.length hes
        rw [List.length_map, hvl] at this
        omega
      have hc1 : 0 < P.cellsOf t := by rw [hlk]; exact hrow.1
      simp only [Instr.storeAt, Leaf.den, hva, Instr.sureAddr, Sem.run_bind, Sem.run_pure, Result.andThen_ok, storeVar, run_sizeOf' hc1, V1.den_cells]
      rw [if_neg (by simp [hlen]), hes]
      simp only [hi, Int.toNat_natCast, Nat.add_zero, add_at, Nat.zero_add]
      exact hr
    refine rowput_loud hs ho hl hmem hown hgd hfree hrow hval hg (xs' := (env r.lv).list.modify i (fun _ => es.map (IE.den env))) (by simp only [LOp.den, hi, Int.toNat_natCast]) (by simp) hst ?_ hgr hrun hk
    refine ⟨by rw [flatRows_length]; simp, .inr ⟨g, cap, _, rfl, hg, hh', hnc, hcm, ?_, ?_⟩⟩
    · simp only [List.size_toArray, List.length_append, List.length_take, List.length_drop, hvl, hcl]
      omega
    · rw [flatRows_setRow r.ks _ _ i hilt, ← htake]
      apply List.ext_getElem?
      intro m
      simp only [List.getElem?_take, List.getElem?_append, List.length_take, List.length_append, hvl, hcl, List.getElem?_drop]
      grind

/-- A store. -/
theorem store_loud {Γ : Known} {w0 w : World} {st st' : St} {a : Act} {o : Oper} {t : TypeId} {x y : Operand} {l : Leaf} {v : V1} {key : Nat} {evs : List Ev} {k : Env → Prop} (hs : Sat w0 env ph st a w) (ho : o.op = .store t x y)
    (hl : opndL st (.c true) x = some l) (hv : opnd1 st (.c true) y = some v) (hlen : v.leaves.length = P.cellsOf t) (hpos : 0 < P.cellsOf t) (h : storeLeaves st l v.leaves key o.dst = some (evs, st')) (hk : evsHold Γ evs k env) :
    Loud Γ P w0 env ph st st' o a w k := by
  have ex := opndL_den hl trueDen hs.tmps
  have ey := opnd1_den hv trueDen hs.tmps
  have hrun : ∀ w', (Instr.storeAt t (l.den env ph) (v.den env ph)).run P w = .ok () w' → (execOp a.eval o).run P w = .ok .skip w' := fun w' hr => by
    simp only [execOp, ho, ex, ey, Sem.run_bind, hr, Result.andThen_ok, Sem.run_pure]
  have hW : opW st ph o.op = leafW ph l := by simp [ho, opW, hl]
  unfold storeLeaves at h
  split at h
  · rename_i id off
    split at h
    · rename_i b hb
      obtain ⟨hmem, rfl⟩ := getBlk_mem hb
      split at h
      · rename_i hoff
        obtain ⟨w', hr, hg, hh⟩ := run_storeAt (P := P) (env := env) (ph := ph) (t := t) (off := off) hlen hpos (hs.mem.blk b hmem).2 hoff
        obtain ⟨rfl, hstep⟩ := setCells_sat hs h hmem hg hh
        exact ⟨.skip, w', _, env, ph, hrun w' hr, rfl, by rw [hW]; exact hstep, hk⟩
      · cases h
    · cases h
  · rename_i id off sz n z
    split at h
    · rename_i b l1 hb hl1
      obtain ⟨hmem, rfl⟩ := getBlk_mem hb
      split at h
      · rename_i cs hcs
        split at h
        · rename_i hn
          split at h
          · rename_i evs' st'' hset
            simp only [Option.some.injEq, Prod.mk.injEq] at h
            obtain ⟨rfl, rfl⟩ := h
            obtain ⟨h0, hk⟩ := needT hk
            obtain ⟨h1, hk⟩ := needT hk
            have h0 := le_den h0
            have h1 := lt_den h1
            simp only [IE.den] at h0 h1
            obtain ⟨e1, e2, e3⟩ := putSel_spec (env := env) (ph := ph) (off := off) hn.2 hcs (z.den env).toNat (by omega) (by omega)
            have hh0 := (hs.mem.blk b hmem).2
            obtain ⟨w', hr, hg, hh⟩ := run_storeAt (P := P) (env := env) (ph := ph) (t := t) (off := off + (z.den env).toNat * sz) hlen hpos hh0 (by rw [hl1]; simp; omega)
            have hh' : w'.heap[ph.r b.id]? = some (.cells (cs.map (Leaf.den env ph)).toArray b.ty (0, 0)) := by
              rw [hh, e3, hl1]
              simp [putCells, List.map_set]
            obtain ⟨rfl, hstep⟩ := setCells_sat hs hset hmem hg hh'
            exact ⟨.skip, w', _, env, ph, hrun w' hr, rfl, by rw [hW]; exact hstep, hk⟩
          · cases h
        · cases h
      · cases h
    · cases h
  · rename_i row sz z j
    split at h
    · rename_i r k' y' hr hl1
      obtain ⟨hmem, rfl⟩ := getRow_mem hr
      split at h
      · rename_i hc
        simp only [Bool.and_eq_true, decide_eq_true_eq] at hc
        obtain ⟨⟨⟨⟨hown, hgt⟩, hsz⟩, hkj⟩, hfree⟩ := hc
        simp only [Option.some.injEq, Prod.mk.injEq] at h
        obtain ⟨rfl, rfl⟩ := h
        obtain ⟨h0, hk⟩ := needT hk
        obtain ⟨h1, hk⟩ := needT hk
        have h0 := le_den h0
        have h1 := lt_den h1
        simp only [IE.den] at h0 h1
        have hgd : r.g.den env = true := by rw [hgt]; rfl
        exact rowset_loud hs ho hl hv hl1 hlen hmem hown hgd hsz hkj hfree h0 h1 hrun hk
      · cases h
    · rename_i ls r hr hne
      split at h
      · rename_i es hes
        obtain ⟨hmem, rfl⟩ := getRow_mem hr
        split at h
        · rename_i hc
          simp only [Bool.and_eq_true, decide_eq_true_eq] at hc
          obtain ⟨⟨⟨⟨⟨hown, hgt⟩, hsz⟩, hj0⟩, _⟩, hfree⟩ := hc
          subst hj0 hsz
          simp only [Option.some.injEq, Prod.mk.injEq] at h
          obtain ⟨rfl, rfl⟩ := h
          obtain ⟨h0, hk⟩ := needT hk
          obtain ⟨h1, hk⟩ := needT hk
          have h0 := le_den h0
          have h1 := lt_den h1
          simp only [IE.den] at h0 h1
          have hgd : r.g.den env = true := by rw [hgt]; rfl
          have hes' := leafIEs_den (env := env) (ph := ph) 0 [] hes rfl
          exact rowsetr_loud hs ho hl hv (by rw [← hes']; rfl) hlen hmem hown hgd hfree h0 h1 hrun hk
        · cases h
      · cases h
    · cases h
  · cases h

theorem fill_rows (ks : List CK) : ∀ (n i : Nat) (ps : List (Nat × V1)) (rows : List (List IE)) (cells : List Value), rowLits ks n i ps = some rows → cells.length = (i + n) * ks.length →
    Instr.fill (fun i => some (i * ks.length, ks.length)) cells.toArray (ps.map fun p => (p.1, p.2.den env ph)) = some (cells.take (i * ks.length) ++ flatRows ks (rows.map fun r => r.map (IE.den env))).toArray ∧ rows.length = n := by
  intro n
  induction n with
  | zero =>
    intro i ps rows cells h hl
    cases ps with
    | nil =>
      simp only [rowLits, Option.some.injEq] at h; subst h
      refine ⟨?_, rfl⟩
      simp only [List.map_nil, Instr.fill, flatRows, List.append_nil]
      rw [List.take_of_length_le (by rw [hl, Nat.add_zero]; exact Nat.le_refl _)]
    | cons p ps => simp [rowLits] at h
  | succ n ih =>
    intro i ps rows cells h hl
    cases ps with
    | nil => simp [rowLits] at h
    | cons p ps =>
      obtain ⟨j, v⟩ := p
      simp only [rowLits] at h
      split at h
      · rename_i hij; subst hij
        split at h
        · rename_i r rs hr hrs
          simp only [Option.some.injEq] at h; subst h
          have hlen := leafIEs_length hr
          have hlv : (v.leaves.map (Leaf.den env ph)).length = ks.length := by rw [List.length_map, hlen]
          have hsum : (i + (n + 1)) * ks.length = i * ks.length + ks.length + n * ks.length := by rw [Nat.add_mul, Nat.add_mul, Nat.one_mul]; omega
          simp only [List.map_cons, Instr.fill, V1.den_cells]
          rw [if_neg (by simp [hlen, hl, hsum] <;> omega)]
          have hset := set_block (v.leaves.map (Leaf.den env ph)) cells (i * ks.length) 0 (by rw [hlv, hl, hsum]; omega)
          have harr : ((v.leaves.map (Leaf.den env ph)).toArray.zipIdx.foldl (fun cs (x : Value × Nat) => cs.setIfInBounds (i * ks.length + x.2) x.1) cells.toArray) = (cells.take (i * ks.length) ++ v.leaves.map (Leaf.den env ph) ++ cells.drop (i * ks.length + ks.length)).toArray := by
            apply Array.ext'
            rw [foldl_set]
            simp only [List.toList_toArray]
            rw [hset, hlv, Nat.add_zero]
          obtain ⟨e1, e2⟩ := ih (i + 1) ps rs (cells.take (i * ks.length) ++ v.leaves.map (Leaf.den env ph) ++ cells.drop (i * ks.length + ks.length)) hrs (by
            simp only [List.length_append, List.length_take, List.length_drop, hlv, hl, hsum]
            rw [show i + 1 + n = i + (n + 1) by omega, hsum]
            omega)
          refine ⟨?_, by simp [e2]⟩
          refine (congrArg (fun c => Instr.fill (fun i => some (i * ks.length, ks.length)) c (ps.map fun p => (p.1, p.2.den env ph))) harr).trans ?_
          rw [e1]
          have hrow := leafIEs_den (env := env) (ph := ph) 0 [] hr rfl
          simp only [List.nil_append] at hrow
          simp only [flatRows, hrow]
          congr 2
          rw [show (i + 1) * ks.length = i * ks.length + ks.length by rw [Nat.add_mul, Nat.one_mul]]
          rw [List.take_append_of_le_length (by simp only [List.length_append, List.length_take, hlv, hl, hsum]; omega), List.take_of_length_le (by simp only [List.length_append, List.length_take, hlv, hl, hsum]; omega)]
          simp
        · cases h
      · cases h

theorem buildSlice_loud {Γ : Known} {w0 w : World} {st st' : St} {a : Act} {o : Oper} {t : TypeId} {n : Nat} {parts : Array (Nat × Operand)} {e : TypeId} {ps : List (Nat × V1)} {ks : List CK} {rows : List (List IE)} {key : Nat} {evs : List Ev} {k : Env → Prop} {G : BE}
    (hs : Sat w0 env ph st a w) (ho : o.op = .buildSlice t n parts) (hu : P.underlying t = some (.slice e)) (hG : G.den env = true) (hps : opndParts st G parts.toList = some ps) (hks : 0 < ks.length) (hz : ((P.info? e).bind (·.zero)).isSome = true)
    (hroom : n * ks.length ≤ 16777216) (hc : P.cellsOf e = ks.length) (hrows : rowLits ks n 0 ps = some rows) (h : newRow st G key e ks [] (.lit rows) st.rows o.dst = some (evs, st')) (hk : evsHold Γ evs k env) :
    Loud Γ P w0 env ph st st' o a w k := by
  have hparts := opndParts_den (a := a) hG hs.tmps hps
  obtain ⟨i, hi, z, hz'⟩ : ∃ i, P.info? e = some i ∧ ∃ z, i.zero = some z := by
    cases hi : P.info? e with
    | none => simp [hi] at hz
    | some i => simp [hi] at hz; exact ⟨i, rfl, Option.isSome_iff_exists.1 hz⟩
  have hzr : (zeroValue e).run P w = .ok z w := by simp [zeroValue, typeInfo, hi, hz']
  obtain ⟨z0, hz0⟩ : ∃ z0 : Array Value, z0.size = (0 + n) * ks.length ∧ (Instr.buildSlice t n (parts.map fun (i, x) => (i, a.eval x))).run P w =
      (match Instr.fill (fun i => some (i * ks.length, ks.length)) z0 (ps.map fun p => (p.1, p.2.den env ph)) with
       | some cells => .ok (.slice (some ⟨w.heap.size, 0, none⟩) n n) (w.alloc (.cells cells e))
       | none => .halt (.stuck "buildSlice: a part of the wrong size") w) := by
    by_cases hn : n * ks.length = 0
    · refine ⟨Array.map (fun x => (#[] : Array Value)[x % (#[] : Array Value).size]!) (Array.range (n * ks.length)), by simp, ?_⟩
      simp only [Instr.buildSlice, Sem.run_bind, run_underlying hu, Result.andThen_ok, run_sizeOf' (P := P) (w := w) (t := e) (by omega), hc]
      rw [if_neg (by omega), if_pos hn]
      simp only [Sem.run_bind, Sem.run_pure, Result.andThen_ok, Array.toList_map, hparts]
      generalize Array.map _ (Array.range (n * ks.length)) = zz
      cases Instr.fill (fun i => some (i * ks.length, ks.length)) zz (ps.map fun p => (p.1, p.2.den env ph)) with
      | none => rfl
      | some cells => rfl
    · refine ⟨(Array.range (n * ks.length)).map (z.cells[· % z.cells.size]!), by simp, ?_⟩
      simp only [Instr.buildSlice, Sem.run_bind, run_underlying hu, Result.andThen_ok, run_sizeOf' (P := P) (w := w) (t := e) (by omega), hc]
      rw [if_neg (by omega), if_neg hn]
      simp only [Sem.run_bind, hzr, Sem.run_pure, Result.andThen_ok, Array.toList_map, hparts]
      generalize Array.map _ (Array.range (n * ks.length)) = zz
      cases Instr.fill (fun i => some (i * ks.length, ks.length)) zz (ps.map fun p => (p.1, p.2.den env ph)) with
      | none => rfl
      | some cells => rfl
  obtain ⟨hz0l, hrun⟩ := hz0
  obtain ⟨hf, hrl⟩ := fill_rows (env := env) (ph := ph) ks n 0 ps rows z0.toList hrows (by simpa using hz0l)
  simp only [Nat.zero_mul, List.take_zero, List.nil_append, Array.toArray_toList] at hf
  rw [hf] at hrun
  obtain ⟨xs, hxs⟩ : ∃ xs, xs = rows.map fun r => r.map (IE.den env) := ⟨_, rfl⟩
  rw [← hxs] at hrun
  have hxl : xs.length = n := by rw [hxs, List.length_map, hrl]
  unfold newRow at h
  split at h
  · rename_i hfree
    simp only [Bool.and_eq_true] at hfree
    obtain ⟨hfree, hGa⟩ := hfree
    simp only [Option.some.injEq, Prod.mk.injEq] at h
    obtain ⟨rfl, rfl⟩ := h
    have hk' : k (env.set key (.l xs)) := by rw [hxs]; exact hk
    have hB : w0.heap.size ≤ w.heap.size := hs.below.size
    have hlenf := flatRows_length ks xs
    have hn0 : n ≤ maxLen := by
      have : n ≤ n * ks.length := Nat.le_mul_of_pos_right n hks
      unfold maxLen; omega
    have hown : (w.alloc (.cells (flatRows ks xs).toArray e)).ownsRow w0.heap.size e ks.length (.slice (some ⟨w.heap.size, 0, none⟩) n n) xs.length (flatRows ks xs) := by
      refine ⟨hlenf, .inr ⟨w.heap.size, n, (flatRows ks xs).toArray, by rw [hxl], hB, heap_alloc_new w _, by omega, hn0, by simp [hlenf, hxl], ?_⟩⟩
      simp only [List.toList_toArray]
      exact List.take_of_length_le (by omega)
    have hW : opW st ph o.op = none := by simp [ho, opW]
    have hstep := newRow_sat (env := env) (ph := ph) (dst := o.dst) (sl := (some ⟨w.heap.size, 0, none⟩, n, n)) (row := none) hs hGa hG hfree hks (fun r hr => hr) (World.grownBy_alloc w (.cells (flatRows ks xs).toArray e) none) (fun k hk => by cases hk)
      (fun b _ => by simp) (fun r _ _ k _ => by simp) hown (.inr (.inl rfl))
    refine ⟨.value (.slice (some ⟨w.heap.size, 0, none⟩) n n), _, _, _, _, ?_, rfl, by rw [hW]; exact hstep, hk'⟩
    simp only [execOp, ho, Sem.run_bind, hrun, Result.andThen_ok, Sem.run_pure]
  · cases h

end Go.Sx
