/- The symbolic executor: operands and loads. -/
import Derived.Test.YtjcomklheilfjaaSxC3
set_option linter.unusedVariables false
set_option linter.unusedSimpArgs false
namespace Go.Sx
open Go.RowKit

variable {env : Env} {ph : Ph} {P : Program}

theorem add_add' (a : Addr) (i j : Nat) : (a.add i).add j = a.add (i + j) := by
  unfold Addr.add
  by_cases hi : i = 0
  · subst hi; simp
  · by_cases hj : j = 0
    · subst hj; simp [hi]
    · simp [hi, hj, Nat.add_assoc]
theorem add_at (b o j : Nat) : (⟨b, o, none⟩ : Addr).add j = ⟨b, o + j, none⟩ := Addr.add_lit b o j

theorem ofConst_den {v : Value} {x : V1} (h : ofConst v = some x) : x.den env ph = v := by
  unfold ofConst at h
  split at h <;> simp only [Option.some.injEq, reduceCtorEq] at h <;> subst h <;> rfl

theorem opnd_den {st : St} {G : BE} {x : Operand} {sv : SV} {a : Act} (h : opnd st G x = some sv) (hG : G.den env = true) (ht : TmpsOk env ph st.tmps a.tmps) :
    a.eval x = sv.den env ph := by
  unfold opnd at h
  split at h
  · rename_i t
    split at h
    · rename_i s hs
      split at h
      · rename_i hg
        simp only [Option.some.injEq] at h; subst h
        have := ht.2 t s hs
        simp only [Act.eval, Array.getD_eq_getD_getElem?, this, Option.getD_some, Slot.den, BE.says_den hg hG, if_true]
      · cases h
    · cases h
  · rename_i v
    simp only [Option.map_eq_some_iff] at h
    obtain ⟨y, hy, rfl⟩ := h
    exact (ofConst_den hy).symm
  · simp only [Option.some.injEq] at h; subst h; rfl
  · cases h

theorem opnd1_den {st : St} {G : BE} {x : Operand} {v : V1} {a : Act} (h : opnd1 st G x = some v) (hG : G.den env = true) (ht : TmpsOk env ph st.tmps a.tmps) :
    a.eval x = v.den env ph := by
  unfold opnd1 at h
  split at h
  · rename_i y hy
    simp only [Option.some.injEq] at h; subst h
    exact opnd_den hy hG ht
  · cases h

theorem opndL_den {st : St} {G : BE} {x : Operand} {l : Leaf} {a : Act} (h : opndL st G x = some l) (hG : G.den env = true) (ht : TmpsOk env ph st.tmps a.tmps) :
    a.eval x = l.den env ph := by
  unfold opndL at h
  split at h
  · rename_i y hy
    simp only [Option.some.injEq] at h; subst h
    exact opnd_den hy hG ht
  · cases h

theorem getBlk_mem {st : St} {id : Nat} {b : Blk} (h : getBlk st id = some b) : b ∈ st.blks ∧ b.id = id := by
  unfold getBlk at h
  exact ⟨List.mem_of_find?_eq_some h, by simpa using List.find?_some h⟩
theorem getRow_mem {st : St} {id : Nat} {r : Row} (h : getRow st id = some r) : r ∈ st.rows ∧ r.id = id := by
  unfold getRow at h
  exact ⟨List.mem_of_find?_eq_some h, by simpa using List.find?_some h⟩

/-! ### Parts -/
/-- What a value of type t looks like. -/
def Looks (P : Program) (t : TypeId) (v : V1) : Prop :=
  (P.underlying t).isSome = true ∧ 0 < P.cellsOf t ∧ ((isAggB P t = true ∧ ∃ ls, v = .agg ls ∧ ls.length = P.cellsOf t) ∨ (isAggB P t = false ∧ ∃ l, v = .one l))

theorem slice1_spec {ls : List Leaf} {off n : Nat} {r : List Leaf} (h : slice1 ls off n = some r) : r.length = n ∧ r = (ls.drop off).take n ∧ off + n ≤ ls.length := by
  unfold slice1 at h
  split at h
  · simp only [Option.some.injEq] at h; subst h
    exact ⟨by simp; omega, rfl, by assumption⟩
  · cases h

theorem partQ_spec {t : TypeId} {cs : List Leaf} {off : Nat} {v : V1} (h : partQ P t cs off = some v) :
    Looks P t v ∧ ∀ j l, v.leaves[j]? = some l → cs[off + j]? = some l := by
  unfold partQ at h
  split at h
  · rename_i hc
    simp only [Bool.and_eq_true, decide_eq_true_eq] at hc
    split at h
    · rename_i ha
      simp only [Option.map_eq_some_iff] at h
      obtain ⟨ls, hls, rfl⟩ := h
      obtain ⟨h1, h2, h3⟩ := slice1_spec hls
      refine ⟨⟨hc.1, hc.2, .inl ⟨ha, ls, rfl, h1⟩⟩, fun j l hj => ?_⟩
      simp only [V1.leaves] at hj
      rw [h2, List.getElem?_take] at hj
      split at hj
      · rw [List.getElem?_drop] at hj; exact hj
      · cases hj
    · rename_i ha
      simp only [Option.map_eq_some_iff] at h
      obtain ⟨l, hl, rfl⟩ := h
      refine ⟨⟨hc.1, hc.2, .inr ⟨by simpa using ha, l, rfl⟩⟩, fun j l' hj => ?_⟩
      simp only [V1.leaves] at hj
      cases j with
      | zero => simp at hj; subst hj; simpa using hl
      | succ j => simp at hj
  · cases h

theorem run_loadVar {t : TypeId} {v : V1} {w : World} {a : Addr} (hv : Looks P t v) (hc : ∀ j l, v.leaves[j]? = some l → w.cell? (a.add j) = some (l.den env ph)) :
    (loadVar t a).run P w = .ok (v.den env ph) w := by
  obtain ⟨hu, hs, ⟨ha, ls, rfl, hl⟩ | ⟨ha, l, rfl⟩⟩ := hv
  · simp only [loadVar, Sem.run_bind, run_isAgg hu, Result.andThen_ok, ha, if_true, run_sizeOf' hs]
    have := run_loadCells_list (P := P) w a (ls.map (Leaf.den env ph)) (fun j u hj => by
      rw [List.getElem?_map] at hj
      simp only [Option.map_eq_some_iff] at hj
      obtain ⟨l, hl, rfl⟩ := hj
      exact hc j l hl)
    rw [List.length_map, hl] at this
    simp only [this, Result.andThen_ok, Sem.run_pure]
    rfl
  · simp only [loadVar, Sem.run_bind, run_isAgg hu, Result.andThen_ok, ha, Bool.false_eq_true, if_false]
    have := hc 0 l rfl
    rw [Addr.add_zero'] at this
    simp [run_load, this, V1.den]

theorem run_partV {t : TypeId} {v : V1} {w : World} {cs : List Leaf} {off : Nat} (h : partQ P t cs off = some v) :
    (part t (cs.map (Leaf.den env ph)).toArray off).run P w = .ok (v.den env ph) w := by
  obtain ⟨⟨hu, hs, hv⟩, hc⟩ := partQ_spec h
  simp only [part, Sem.run_bind, run_isAgg hu, Result.andThen_ok]
  rcases hv with ⟨ha, ls, rfl, hl⟩ | ⟨ha, l, rfl⟩
  · simp only [ha, if_true, Sem.run_bind, run_sizeOf' hs, Result.andThen_ok, Sem.run_pure, V1.den]
    congr 2
    unfold partQ at h
    simp only [hu, hs, decide_true, Bool.and_self, if_true, ha, Option.map_eq_some_iff] at h
    obtain ⟨ls', hls, e⟩ := h
    obtain ⟨h1, h2, h3⟩ := slice1_spec hls
    simp only [V1.agg.injEq] at e
    subst e
    apply Array.ext'
    simp [Array.toList_extract, List.extract_eq_take_drop, h2, List.map_take, List.map_drop]
  · have := hc 0 l rfl
    simp only [Nat.add_zero] at this
    simp [ha, this, V1.den]

/-! ### Loads by a number -/
theorem everyNth_spec : ∀ {n : Nat} {cells : List Leaf} {off sz : Nat} {ls : List Leaf}, everyNth cells off sz n = some ls → ls.length = n ∧ ∀ j l, ls[j]? = some l → cells[off + j * sz]? = some l := by
  intro n
  induction n with
  | zero => intro cells off sz ls h; simp only [everyNth, Option.some.injEq] at h; subst h; simp
  | succ n ih =>
    intro cells off sz ls h
    simp only [everyNth] at h
    split at h
    · rename_i l ls' h1 h2
      simp only [Option.some.injEq] at h; subst h
      obtain ⟨h3, h4⟩ := ih h2
      refine ⟨by simp [h3], fun j l' hj => ?_⟩
      cases j with
      | zero => simp at hj; subst hj; simpa using h1
      | succ j =>
        simp only [List.getElem?_cons_succ] at hj
        have := h4 j l' hj
        rw [Nat.add_mul, Nat.one_mul]
        rwa [show off + (j * sz + sz) = off + sz + j * sz by omega]
    · cases h

theorem selLeaf_den {x : IE} : ∀ {ls : List Leaf} {j : Nat} {l : Leaf}, selLeaf x j ls = some l → ∀ i : Nat, x.den env = ((j + i : Nat) : Int) → i < ls.length → ∃ l', ls[i]? = some l' ∧ l.den env ph = l'.den env ph := by
  intro ls
  induction ls with
  | nil => intro j l h; simp [selLeaf] at h
  | cons l0 ls ih =>
    intro j l h i hx hi
    cases ls with
    | nil =>
      simp only [selLeaf, Option.some.injEq] at h; subst h
      have : i = 0 := by simp at hi; exact hi
      subst this
      exact ⟨l0, rfl, rfl⟩
    | cons l1 ls =>
      simp only [selLeaf] at h
      split at h
      · rename_i k a k' b h1
        split at h
        · rename_i hk; subst hk
          simp only [Option.some.injEq] at h; subst h
          cases i with
          | zero =>
            refine ⟨_, rfl, ?_⟩
            simp only [Nat.add_zero] at hx
            simp [Leaf.den, IE.den, hx]
          | succ i =>
            obtain ⟨l', hl', he⟩ := ih h1 i (by rw [hx]; congr 1; omega) (by simpa using hi)
            refine ⟨l', by simpa using hl', ?_⟩
            have hne : x.den env ≠ (j : Int) := by rw [hx]; omega
            rw [← he]
            simp [Leaf.den, IE.den, hne]
        · cases h
      · cases h

theorem selAt_den {cells : List Leaf} {off sz n : Nat} {x : IE} {l : Leaf} (h : selAt cells off sz n x = some l) (h0 : 0 ≤ x.den env) (h1 : x.den env < (n : Int)) :
    ∃ l', cells[off + (x.den env).toNat * sz]? = some l' ∧ l.den env ph = l'.den env ph := by
  unfold selAt at h
  split at h
  · rename_i ls hls
    obtain ⟨e1, e2⟩ := everyNth_spec hls
    obtain ⟨l', hl', he⟩ := selLeaf_den (env := env) (ph := ph) h (x.den env).toNat (by omega) (by omega)
    exact ⟨l', e2 _ l' hl', he⟩
  · cases h

theorem selRange_den {cells : List Leaf} {sz n : Nat} {x : IE} (h0 : 0 ≤ x.den env) (h1 : x.den env < (n : Int)) : ∀ {m off : Nat} {ls : List Leaf}, selRange cells sz n x off m = some ls →
    ls.length = m ∧ ∀ j l, ls[j]? = some l → ∃ l', cells[off + j + (x.den env).toNat * sz]? = some l' ∧ l.den env ph = l'.den env ph := by
  intro m
  induction m with
  | zero => intro off ls h; simp only [selRange, Option.some.injEq] at h; subst h; simp
  | succ m ih =>
    intro off ls h
    simp only [selRange] at h
    split at h
    · rename_i l ls' h2 h3
      simp only [Option.some.injEq] at h; subst h
      obtain ⟨e1, e2⟩ := ih h3
      refine ⟨by simp [e1], fun j l' hj => ?_⟩
      cases j with
      | zero => simp at hj; subst hj; exact selAt_den h2 h0 h1
      | succ j =>
        simp only [List.getElem?_cons_succ] at hj
        have := e2 j l' hj
        rwa [show off + 1 + j = off + (j + 1) by omega] at this
    · cases h

/-! ### Rows -/
theorem rowLeaves_get {lv : Nat} {x : IE} : ∀ {ks : List CK} {j0 j : Nat}, (rowLeaves lv x j0 ks)[j]? = (ks[j]?).map (rowLeaf lv x (j0 + j)) := by
  intro ks
  induction ks with
  | nil => intro j0 j; simp [rowLeaves]
  | cons k ks ih =>
    intro j0 j
    cases j with
    | zero => simp [rowLeaves]
    | succ j => simp only [rowLeaves, List.getElem?_cons_succ, ih]; rw [show j0 + 1 + j = j0 + (j + 1) by omega]

theorem rowLeaf_den {lv : Nat} {x : IE} {j : Nat} {k : CK} : (rowLeaf lv x j k).den env ph = k.val (cellAt (env lv).list (x.den env) j) := by
  cases k <;> rfl

/-- The block that a load looks into. -/
def leafBlk (ph : Ph) : Leaf → Option Nat
  | .p id _ => some (ph.r id)
  | .pi id _ _ _ _ => some (ph.r id)
  | .ep row _ _ _ => (ph.val row).ownBlock
  | _ => none

theorem cell_same {w w' : World} {b o : Nat} (h : w'.heap[b]? = w.heap[b]?) : w'.cell? ⟨b, o, none⟩ = w.cell? ⟨b, o, none⟩ := World.cell?_of_block (w := w) h

/-- Where a row's element lies: a slice with an address, and the cells there. -/
theorem row_at {B : Nat} {r : Row} {w : World} (h : RowOk B env ph r w) {i : Int} (h0 : 0 ≤ i) (h1 : i < ((env r.lv).list.length : Int)) :
    ∃ a cap, ph.v r.id = (some a, (env r.lv).list.length, cap) ∧ ∀ j k, r.ks[j]? = some k → w.cell? (a.add (i.toNat * r.ks.length + j)) = some (k.val (cellAt (env r.lv).list i j)) := by
  obtain ⟨base, cap, hv, hn, hb0, hc⟩ := h.reads
  have hlen : 0 < (env r.lv).list.length := by omega
  cases base with
  | none => exact absurd (hb0 rfl).1 (by omega)
  | some a =>
    have hv' : ph.v r.id = (some a, (env r.lv).list.length, cap) := by
      simp only [Ph.val, Value.slice.injEq] at hv
      exact Prod.ext hv.1 (Prod.ext hv.2.1 hv.2.2)
    refine ⟨a, cap, hv', fun j k hj => ?_⟩
    have hjl : j < r.ks.length := (List.getElem?_eq_some_iff.1 hj).1
    have := flatRows_get r.ks (env r.lv).list i.toNat j (by omega) hjl
    rw [hj] at this
    obtain ⟨a', e, hcell⟩ := hc _ _ this
    simp only [Option.some.injEq] at e
    subst e
    exact hcell

theorem loadQ_run {B : Nat} {st : St} {G : BE} {t : TypeId} {l : Leaf} {ns : List BE} {v : V1} {w w' : World} (h : loadQ P st G t l = some (ns, v)) (hG : G.den env = true) (hn : ∀ n ∈ ns, n.den env = true)
    (hm : MemOk B env ph st.blks st.rows w) (hw : ∀ k, leafBlk ph l = some k → w'.heap[k]? = w.heap[k]?) : (Instr.loadAt t (l.den env ph)).run P w' = .ok (v.den env ph) w' := by
  unfold loadQ at h
  split at h
  · rename_i id off
    split at h
    · rename_i b hb
      simp only [Option.map_eq_some_iff, Prod.mk.injEq] at h
      obtain ⟨v', hv, rfl, rfl⟩ := h
      obtain ⟨hmem, rfl⟩ := getBlk_mem hb
      obtain ⟨hlook, hcs⟩ := partQ_spec hv
      have hheap := (hm.blk b hmem).2
      have hw' := hw _ rfl
      rw [hheap] at hw'
      simp only [Instr.loadAt, Leaf.den, Instr.sureAddr, Sem.run_bind, Sem.run_pure, Result.andThen_ok]
      refine run_loadVar hlook fun j lf hj => ?_
      rw [add_at, cell_of_row w' _ _ _ _ _ hw']
      have := hcs j lf hj
      simp [this]
    · cases h
  · rename_i id off sz n x
    split at h
    · rename_i b hb
      obtain ⟨hmem, rfl⟩ := getBlk_mem hb
      have hheap := (hm.blk b hmem).2
      have hw' := hw _ rfl
      rw [hheap] at hw'
      split at h
      · cases h
      · rename_i hc
        simp only [Bool.not_eq_true', Bool.not_eq_false, Bool.and_eq_true, decide_eq_true_eq] at hc
        have fin : ∀ v : V1, Looks P t v → (∀ j l, v.leaves[j]? = some l → ∃ l', b.cells[off + j + (x.den env).toNat * sz]? = some l' ∧ l.den env ph = l'.den env ph) →
            (Instr.loadAt t ((Leaf.pi b.id off sz n x).den env ph)).run P w' = .ok (v.den env ph) w' := by
          intro v hlook hcs
          simp only [Instr.loadAt, Leaf.den, Instr.sureAddr, Sem.run_bind, Sem.run_pure, Result.andThen_ok]
          refine run_loadVar hlook fun j lf hj => ?_
          obtain ⟨l', h1, h2⟩ := hcs j lf hj
          rw [add_at, cell_of_row w' _ _ _ _ _ hw', show off + (x.den env).toNat * sz + j = off + j + (x.den env).toNat * sz by omega]
          simp [h1, h2]
        split at h
        · rename_i ha
          simp only [Option.map_eq_some_iff, Prod.mk.injEq] at h
          obtain ⟨ls, hls, rfl, rfl⟩ := h
          have h0 := le_den (hn _ (List.mem_cons_self ..))
          have h1 := lt_den (hn _ (List.mem_cons_of_mem _ (List.mem_cons_self ..)))
          obtain ⟨e1, e2⟩ := selRange_den (env := env) (ph := ph) (x := x) (n := n) h0 h1 hls
          exact fin _ ⟨hc.1, hc.2, .inl ⟨ha, ls, rfl, e1⟩⟩ e2
        · rename_i ha
          simp only [Option.map_eq_some_iff, Prod.mk.injEq] at h
          obtain ⟨lf, hlf, rfl, rfl⟩ := h
          have h0 := le_den (hn _ (List.mem_cons_self ..))
          have h1 := lt_den (hn _ (List.mem_cons_of_mem _ (List.mem_cons_self ..)))
          refine fin _ ⟨hc.1, hc.2, .inr ⟨by simpa using ha, lf, rfl⟩⟩ fun j l hj => ?_
          cases j with
          | zero =>
            simp only [V1.leaves, List.getElem?_cons_zero, Option.some.injEq] at hj; subst hj
            exact selAt_den hlf h0 h1
          | succ j => simp [V1.leaves] at hj
    · cases h
  · rename_i row sz x j
    split at h
    · rename_i r hr
      obtain ⟨hmem, rfl⟩ := getRow_mem hr
      split at h
      · rename_i hc
        simp only [Bool.and_eq_true, decide_eq_true_eq] at hc
        obtain ⟨hg, rfl⟩ := hc
        split at h
        · rename_i v' hv
          simp only [Option.some.injEq, Prod.mk.injEq] at h
          obtain ⟨rfl, rfl⟩ := h
          have h0 := le_den (hn _ (List.mem_cons_self ..))
          have h1 := lt_den (hn _ (List.mem_cons_of_mem _ (List.mem_cons_self ..)))
          simp only [IE.den] at h0 h1
          obtain ⟨a, cap, hva, hcells⟩ := row_at (hm.row r hmem (BE.says_den hg hG)) h0 h1
          obtain ⟨hlook, hcs⟩ := partQ_spec hv
          simp only [Instr.loadAt, Leaf.den, hva, Instr.sureAddr, Sem.run_bind, Sem.run_pure, Result.andThen_ok]
          refine run_loadVar hlook fun jj lf hj => ?_
          have := hcs jj lf hj
          rw [rowLeaves_get] at this
          simp only [Option.map_eq_some_iff, Nat.zero_add] at this
          obtain ⟨k, hk, rfl⟩ := this
          rw [add_add', Nat.add_assoc, rowLeaf_den, ← hcells _ k hk]
          refine World.cell?_of_block (w := w) ?_
          have hblk : ∀ n, (a.add n).block = a.block := fun n => by unfold Addr.add; split <;> rfl
          rw [hblk]
          exact hw _ (by simp [leafBlk, Ph.val, hva, Value.ownBlock])
        · rename_i hv
          unfold wideQ at h
          split at h
          · rename_i k n hks
            split at h
            · rename_i hc
              simp only [Bool.and_eq_true, decide_eq_true_eq] at hc
              simp only [Option.some.injEq, Prod.mk.injEq] at h
              obtain ⟨rfl, rfl⟩ := h
              have hle := le_den (hn _ (List.mem_cons_self ..))
              simp only [IE.den] at hle
              have hrow := hm.row r hmem (BE.says_den hg hG)
              obtain ⟨a, cap, hva, _⟩ := row_at hrow (i := 0) (Int.le_refl _) (by omega)
              have hat : ∀ q : Nat, q < P.cellsOf t → w.cell? (a.add (n + q)) = some (k.val (cellAt (env r.lv).list ((n + q : Nat) : Int) 0)) := fun q hq => by
                obtain ⟨a', cap', hva', hcells⟩ := row_at hrow (i := ((n + q : Nat) : Int)) (by omega) (by omega)
                rw [hva] at hva'
                simp only [Prod.mk.injEq, Option.some.injEq] at hva'
                obtain ⟨rfl, _⟩ := hva'
                have := hcells 0 k (by rw [hks]; rfl)
                rw [hks] at this
                simp only [List.length_singleton, Nat.mul_one, Nat.add_zero, Int.toNat_natCast] at this
                exact this
              simp only [Instr.loadAt, Leaf.den, hva, Instr.sureAddr, Sem.run_bind, Sem.run_pure, Result.andThen_ok, IE.den]
              refine run_loadVar ⟨hc.1.1, hc.1.2, .inl ⟨hc.2, _, rfl, by simp⟩⟩ fun jj lf hj => ?_
              simp only [V1.leaves, List.getElem?_map, Option.map_eq_some_iff] at hj
              obtain ⟨q, hq, rfl⟩ := hj
              obtain ⟨hql, hqe⟩ := List.getElem?_eq_some_iff.1 hq
              simp only [List.length_range] at hql
              simp only [List.getElem_range] at hqe
              subst hqe
              rw [rowLeaf_den, add_add', hks]
              simp only [List.length_singleton, Nat.mul_one, Nat.add_zero, IE.den]
              rw [show (Int.ofNat n).toNat = n from rfl, ← hat jj hql]
              refine World.cell?_of_block (w := w) ?_
              have hblk : ∀ n, (a.add n).block = a.block := fun n => by unfold Addr.add; split <;> rfl
              rw [hblk]
              exact hw _ (by simp [leafBlk, Ph.val, hva, Value.ownBlock])
            · cases h
          · cases h
      · cases h
    · cases h
  · cases h

end Go.Sx
