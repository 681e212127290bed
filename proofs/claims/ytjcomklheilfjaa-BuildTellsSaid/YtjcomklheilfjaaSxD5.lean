/- The symbolic executor: append, and every loud operation. -/
import Derived.Test.YtjcomklheilfjaaSxD4
import Derived.Laws.OwnMore
set_option linter.unusedVariables false
set_option linter.unusedSimpArgs false
namespace Go.Sx
open Go.RowKit

variable {env : Env} {ph : Ph} {P : Program}

theorem cellsOf_info {t : TypeId} {i : TypeInfo} (h : P.info? t = some i) : P.cellsOf t = i.size := by simp [Program.cellsOf, h]

theorem own_slice {w : World} {B : Nat} {e : TypeId} {sz : Nat} {v : Value} {n : Nat} {xs : List Value} (h : w.ownsRow B e sz v n xs) : ∃ sl : Option Addr × Nat × Nat, v = .slice sl.1 sl.2.1 sl.2.2 := by
  obtain ⟨_, ⟨rfl, _⟩ | ⟨g, cap, cur, rfl, _⟩⟩ := h
  · exact ⟨(none, 0, 0), rfl⟩
  · exact ⟨(_, _, _), rfl⟩

theorem append_core {w : World} {B : Nat} {t ty e : TypeId} {room sz : Nat} {v y : Value} {n m : Nat} {xs news : List Value} (ht : P.underlying t = some (.slice e)) (hr : roomOf P e = some room) (hsz : P.cellsOf e = sz)
    (hown : w.ownsRow B e sz v n xs) (hy : Reads w y m news) (hl : news.length = m * sz) (h1 : ∀ u ∈ news, u.oneCell' = true) (hroom : n + m ≤ room) (hB : B ≤ w.heap.size) :
    ∃ (sl : Option Addr × Nat × Nat) (w' : World), (Builtin.append_ #[t, t] ty #[v, y]).run P w = .ok (.slice sl.1 sl.2.1 sl.2.2) w' ∧ w'.ownsRow B e sz (.slice sl.1 sl.2.1 sl.2.2) (n + m) (xs ++ news) ∧ w.grownBy w' v.ownBlock ∧
      ((Value.slice sl.1 sl.2.1 sl.2.2).ownBlock = v.ownBlock ∨ (Value.slice sl.1 sl.2.1 sl.2.2).ownBlock = some w.heap.size) := by
  unfold roomOf at hr
  cases hi : P.info? e with
  | none => simp [hi] at hr
  | some i =>
    simp only [hi] at hr
    cases hz : i.zero with
    | none => simp [hz] at hr
    | some z =>
      simp only [hz] at hr
      split at hr
      · rename_i hc
        simp only [Bool.and_eq_true, decide_eq_true_eq] at hc
        obtain ⟨⟨hb0, hs0⟩, hzs⟩ := hc
        simp only [Option.some.injEq] at hr
        subst hr
        have hsi : i.size = sz := by rw [← hsz, cellsOf_info hi]
        have hby : (n + m) * i.bytes ≤ 140737488355328 := (Nat.le_div_iff_mul_le hb0).1 hroom
        have h63 : n + m ≤ maxLen := by
          have : n + m ≤ (n + m) * i.bytes := Nat.le_mul_of_pos_right _ hb0
          unfold maxLen; omega
        obtain ⟨base, cap, rfl, hm, hnil, hcs⟩ := hy
        cases base with
        | none =>
          obtain ⟨rfl, rfl⟩ := hnil rfl
          rw [Nat.zero_mul] at hl
          have := List.eq_nil_of_length_eq_zero hl
          subst this
          obtain ⟨sl, rfl⟩ := own_slice hown
          refine ⟨sl, w, run_append_owned_none w B t ty e i sz ht hi _ n xs hown, by simpa using hown, ⟨rfl, rfl, rfl, Nat.le_refl _, fun _ _ _ => rfl⟩, .inl rfl⟩
        | some a =>
          obtain ⟨v', w', e1, e2, e3, _, e5⟩ := run_append_own_at (P := P) w B t ty e i z sz i.bytes ht hi hz hsi rfl (by rw [hzs, hsi]) (by omega) v n xs hown a m cap news hl
            (fun j u hj => by obtain ⟨a', e, h⟩ := hcs j u hj; simp only [Option.some.injEq] at e; subst e; exact h) h1 h63 hby hB
          obtain ⟨sl, rfl⟩ := own_slice e2
          exact ⟨sl, w', e1, e2, e3, e5⟩
      · cases hr

theorem append_loud {Γ : Known} {w0 w : World} {st st' : St} {a : Act} {o : Oper} {t e : TypeId} {x y : Operand} {key room : Nat} {evs : List Ev} {k : Env → Prop} {v : Value} {xs : List (List Int)} {rb : Row} {rows : List Row} {ne : BE} {op : LOp}
    (hs : Sat w0 env ph st a w) (ho : o.op = .call { callee := .builtin .append, args := #[x, y], argTypes := #[t, t] }) (hu : P.underlying t = some (.slice e)) (hr : roomOf P e = some room)
    (hx : a.eval x = v) (hy : opndL st (.c true) y = some (.s rb.id)) (hrb : rb ∈ st.rows) (hgb : rb.g = .c true) (hce : P.cellsOf e = rb.ks.length)
    (hv : w.ownsRow w0.heap.size e rb.ks.length v xs.length (flatRows rb.ks xs)) (hW : opW st ph o.op = v.ownBlock) (hsub : ∀ r ∈ rows, r ∈ st.rows)
    (hblk : ∀ b ∈ st.blks, v.ownBlock ≠ some (ph.r b.id)) (hrows : ∀ r ∈ rows, r.g.den env = true → ∀ k, r.foot env ph = some k → v.ownBlock ≠ some k)
    (hop : op.den env = xs ++ (env rb.lv).list) (hne : ne.den env = true → xs.length + (env rb.lv).list.length ≤ room)
    (h : newRow st (.c true) key e rb.ks [.need ne] op rows o.dst = some (evs, st')) (hk : evsHold Γ evs k env) :
    Loud Γ P w0 env ph st st' o a w k := by
  unfold newRow at h
  split at h
  · rename_i hfree
    simp only [Bool.and_eq_true] at hfree
    obtain ⟨hfree, hGa⟩ := hfree
    simp only [Option.some.injEq, Prod.mk.injEq] at h
    obtain ⟨rfl, rfl⟩ := h
    obtain ⟨hn, hk⟩ := needT (es := [.letl key op]) hk
    have hk' : k (env.set key (.l (xs ++ (env rb.lv).list))) := by rw [← hop]; exact hk
    have hrow := hs.mem.row rb hrb (by rw [hgb]; rfl)
    have ey := opndL_den hy trueDen hs.tmps
    simp only [Leaf.den] at ey
    obtain ⟨sl, w', e1, e2, e3, e5⟩ := append_core (ty := o.type) hu hr hce hv hrow.reads (flatRows_length _ _) (flatRows_oneCell _ _) (hne hn) hs.below.size
    rw [← flatRows_append, ← List.length_append] at e2
    have hvB : ∀ k, v.ownBlock = some k → w0.heap.size ≤ k := fun k hk => (hv.lt k hk).1
    have hstep := newRow_sat (dst := o.dst) (sl := sl) (row := v.ownBlock) hs hGa trueDen hfree hrow.1 hsub e3 hvB hblk hrows e2 (by
      rcases e5 with e5 | e5
      · exact .inl e5
      · exact .inr (.inl e5))
    refine ⟨.value (.slice sl.1 sl.2.1 sl.2.2), w', _, _, _, ?_, rfl, by rw [hW]; exact hstep, hk'⟩
    simp only [execOp, ho, resolve, invoke, builtin, Sem.run_bind, Sem.run_pure, Result.andThen_ok, List.map_toArray, List.map_cons, List.map_nil, hx, ey, e1]
  · cases h

theorem alloc_loud {Γ : Known} {w0 w : World} {st st' : St} {a : Act} {o : Oper} {e : TypeId} {ls : List Leaf} {key : Nat} {evs : List Ev} {k : Env → Prop} (hs : Sat w0 env ph st a w)
    (hW : opW st ph o.op = none) (hrun : (execOp a.eval o).run P w = .ok (.value (.pointer (some ⟨w.heap.size, 0, none⟩))) (w.alloc (.cells (ls.map (Leaf.den env ph)).toArray e)))
    (h : allocBlk st key e ls o.dst = some (evs, st')) (hk : evsHold Γ evs k env) : Loud Γ P w0 env ph st st' o a w k := by
  obtain ⟨rfl, hstep⟩ := alloc_sat hs h
  exact ⟨_, _, _, _, _, hrun, rfl, by rw [hW]; exact hstep, hk⟩

theorem flatRows_take (ks : List CK) : ∀ (xs : List (List Int)) (n : Nat), flatRows ks (xs.take n) = (flatRows ks xs).take (n * ks.length) := by
  intro xs
  induction xs with
  | nil => intro n; simp [flatRows]
  | cons r rs ih =>
    intro n
    cases n with
    | zero => simp [flatRows]
    | succ n =>
      simp only [List.take_succ_cons, flatRows, ih]
      have e : (n + 1) * ks.length = ks.length + n * ks.length := by rw [Nat.add_mul]; omega
      rw [e, List.take_append, rowCells_length, show ks.length + n * ks.length - ks.length = n * ks.length by omega, List.take_of_length_le (l := rowCells ks 0 r) (by rw [rowCells_length]; omega)]

theorem own_take {w : World} {B : Nat} {e : TypeId} {ks : List CK} {base : Option Addr} {n cap m : Nat} {xs : List (List Int)} (hn : n = xs.length) (h : w.ownsRow B e ks.length (.slice base n cap) n (flatRows ks xs)) (hm : m ≤ n) :
    w.ownsRow B e ks.length (.slice base m cap) (xs.take m).length (flatRows ks (xs.take m)) := by
  have hl : (xs.take m).length = m := by rw [List.length_take]; omega
  rw [hl]
  refine ⟨by rw [flatRows_length, hl], ?_⟩
  rcases h.2 with ⟨e1, e2⟩ | ⟨g, cap', cur, e1, hg, hh, hnc, hcm, hcs, htake⟩
  · simp only [Value.slice.injEq] at e1
    obtain ⟨rfl, h0, rfl⟩ := e1
    have : m = 0 := by omega
    subst this
    exact .inl ⟨rfl, rfl⟩
  · simp only [Value.slice.injEq, true_and] at e1
    obtain ⟨rfl, rfl⟩ := e1
    refine .inr ⟨g, cap, cur, rfl, hg, hh, by omega, hcm, hcs, ?_⟩
    rw [flatRows_take, ← htake, List.take_take]
    congr 1
    have := Nat.mul_le_mul_right ks.length hm
    omega

theorem run_slice_high {t e : TypeId} {w : World} {base : Option Addr} {n cap : Nat} {k : IntKind} {m : Int} (hu : P.underlying t = some (.slice e)) (hc : 0 < P.cellsOf e) (h0 : 0 ≤ m) (h1 : m ≤ (n : Int)) (hnc : n ≤ cap) :
    (Instr.slice t (.slice base n cap) none (some (.int k m)) none).run P w = .ok (.slice base m.toNat cap) w := by
  have hm : 0 ≤ m ∧ m ≤ (cap : Int) := ⟨h0, by omega⟩
  simp only [Instr.slice, Instr.sliceBounds, Instr.sliceBound, asIntOf, Sem.run_bind, Sem.run_pure, Result.andThen_ok, run_underlying hu]
  simp only [hm, and_self, if_true, Sem.run_bind, Sem.run_pure, Result.andThen_ok, run_sizeOf' hc, Nat.sub_zero, Nat.zero_mul]
  congr 2
  cases base with
  | none => simp
  | some a => simp [Addr.add_zero']

/-- A slice up to a number. -/
theorem take_loud {Γ : Known} {w0 w : World} {st st' : St} {a : Act} {o : Oper} {t e : TypeId} {x h' : Operand} {key : Nat} {evs : List Ev} {k : Env → Prop} {ra : Row} {kd : IntKind} {n : IE}
    (hs : Sat w0 env ph st a w) (ho : o.op = .slice t x none (some h') none) (hu : P.underlying t = some (.slice e)) (hx : opndL st (.c true) x = some (.s ra.id)) (hh : opndL st (.c true) h' = some (.i kd n))
    (hmem : ra ∈ st.rows) (hown : ra.own = true) (hg : ra.g = .c true) (he : ra.e = e) (hce : P.cellsOf e = ra.ks.length)
    (h : newRow st (.c true) key e ra.ks [.need (BE.le (.c 0) n).mk, .need (BE.le n (.len ra.lv)).mk] (.take ra.lv n) (st.rows.filter fun r => decide (r.id ≠ ra.id)) o.dst = some (evs, st')) (hk : evsHold Γ evs k env) :
    Loud Γ P w0 env ph st st' o a w k := by
  unfold newRow at h
  split at h
  · rename_i hfree
    simp only [Bool.and_eq_true] at hfree
    obtain ⟨hfree, hGa⟩ := hfree
    simp only [Option.some.injEq, Prod.mk.injEq] at h
    obtain ⟨rfl, rfl⟩ := h
    obtain ⟨h0, hk⟩ := needT (es := [.need (BE.le n (.len ra.lv)).mk, .letl key (.take ra.lv n)]) hk
    obtain ⟨h1, hk⟩ := needT (es := [.letl key (.take ra.lv n)]) hk
    have h0 := le_den h0
    have h1 := le_den h1
    simp only [IE.den] at h0 h1
    have hk' : k (env.set key (.l ((env ra.lv).list.take (n.den env).toNat))) := hk
    have hda : ra.g.den env = true := by rw [hg]; rfl
    have hrow := hs.mem.row ra hmem hda
    have hown' := hrow.2
    rw [if_pos hown, he] at hown'
    have ex := opndL_den hx trueDen hs.tmps
    have eh := opndL_den hh trueDen hs.tmps
    simp only [Leaf.den] at ex eh
    obtain ⟨base, cap, hv, hnc⟩ : ∃ base cap, ph.val ra.id = .slice base (env ra.lv).list.length cap ∧ (env ra.lv).list.length ≤ cap := by
      rcases hown'.2 with ⟨e1, e2⟩ | ⟨g, cap', cur, e1, _, _, hnc, _⟩
      · exact ⟨none, 0, by rw [e1, e2], by omega⟩
      · exact ⟨_, cap', e1, hnc⟩
    rw [hv] at hown'
    have htk := own_take (m := (n.den env).toNat) rfl hown' (by omega)
    have hfoot : ra.foot env ph = (Value.slice base (env ra.lv).list.length cap).ownBlock := by rw [← hv]; simp [Row.foot, hown]
    have hob : ∀ m m' : Nat, (Value.slice base m cap).ownBlock = (Value.slice base m' cap).ownBlock := fun _ _ => by cases base <;> rfl
    have hstep := newRow_sat (dst := o.dst) (sl := (base, (n.den env).toNat, cap)) (row := (Value.slice base (env ra.lv).list.length cap).ownBlock) (rows := st.rows.filter fun r => decide (r.id ≠ ra.id)) hs hGa trueDen hfree hrow.1 (fun r hr => (List.mem_filter.1 hr).1) (grownBy_wide (grownBy_refl w)) (fun k hk => (hown'.lt k hk).1)
      (fun b hb e => hs.mem.br b hb ra hmem hda (by rw [hfoot, e])) (fun r hr h1 k hk e => by
        have hm := List.mem_filter.1 hr
        exact hs.mem.rr ra hmem r hm.1 (fun e => by simp [e] at hm) hown hda h1 k (by rw [hfoot, e]) hk) htk (.inl (hob _ _))
    refine ⟨.value (.slice base (n.den env).toNat cap), w, _, _, _, ?_, rfl, ⟨hstep.sat, hstep.agree, ?_, hstep.mono⟩, hk'⟩
    · simp only [execOp, ho, Option.map_none, Option.map_some, ex, eh, hv, Sem.run_bind, run_sliceAt_slice (P := P) (w := w) t _ _ _ _ (by simp [Program.elem, hu]), run_slice_high hu (by rw [hce]; exact hrow.1) h0 h1 hnc, Result.andThen_ok, Sem.run_pure]
    · rw [ho]
      exact grownBy_refl w
  · cases h

theorem toList_two {α : Type} {a : Array α} {x y : α} (h : a.toList = [x, y]) : a = #[x, y] := Array.ext' (by simpa using h)

/-- Every loud operation that is carried out. -/
theorem lop_sound {Γ : Known} {w0 w : World} {st st' : St} {a : Act} {o : Oper} {key : Nat} {evs : List Ev} {k : Env → Prop} (hs : Sat w0 env ph st a w) (h : lop P st key o.dst o.op = some (evs, st')) (hk : evsHold Γ evs k env) :
    Loud Γ P w0 env ph st st' o a w k := by
  obtain ⟨op, ho⟩ : ∃ op, op = o.op := ⟨_, rfl⟩
  rw [← ho] at h
  unfold lop at h
  split at h
  · rename_i e
    split at h
    · rename_i z hz
      refine alloc_loud hs (by rw [← ho]; rfl) ?_ h hk
      simp only [execOp, ← ho, Instr.alloc, Sem.run_bind, zeroQ_run (ph := ph) (env := env) hz, newVar, Go.newRow, run_newObj_alloc, Sem.run_pure, Result.andThen_ok, V1.den_cells]
    · cases h
  · rename_i e x
    split at h
    · rename_i v hv
      refine alloc_loud hs (by rw [← ho]; rfl) ?_ h hk
      have ex := opnd1_den hv trueDen hs.tmps
      simp only [execOp, ← ho, ex, Instr.box, Sem.run_bind, newVar, Go.newRow, run_newObj_alloc, Sem.run_pure, Result.andThen_ok, V1.den_cells]
    · cases h
  · rename_i t x y
    split at h
    · rename_i l v hl hv
      split at h
      · rename_i hc
        exact store_loud hs ho.symm hl hv hc.1 hc.2 h hk
      · cases h
    · cases h
  · rename_i t x h'
    split at h
    · rename_i e a1 kd n hu hx hh
      split at h
      · rename_i ra hra
        obtain ⟨hmem, rfl⟩ := getRow_mem hra
        split at h
        · rename_i hc
          simp only [Bool.and_eq_true, decide_eq_true_eq] at hc
          obtain ⟨⟨⟨hown, hg⟩, he⟩, hce⟩ := hc
          exact take_loud hs ho.symm hu hx hh hmem hown hg he hce h hk
        · cases h
      · cases h
    · cases h
  · rename_i args argTypes
    split at h
    · rename_i x y t t' hargs htys
      have hargs := toList_two hargs
      have htys := toList_two htys
      split at h
      · rename_i htt
        subst htt
        subst hargs htys
        split at h
        · rename_i e hu
          split at h
          · rename_i room b hr hx hy
            split at h
            · rename_i rb hrb
              obtain ⟨hmem, rfl⟩ := getRow_mem hrb
              split at h
              · rename_i hc
                simp only [Bool.and_eq_true, decide_eq_true_eq] at hc
                obtain ⟨⟨hg, he⟩, hce⟩ := hc
                have ex := opndL_den hx trueDen hs.tmps
                refine append_loud (v := .slice none 0 0) (xs := []) hs ho.symm hu hr ex hy hmem hg hce (World.ownsRow_nil _ _ _ _) ?_ (fun _ h => h) (fun _ _ => by simp [Value.ownBlock]) (fun _ _ _ _ _ => by simp [Value.ownBlock]) ?_ ?_ h hk
                · rw [← ho]
                  simp [opW, hx, Value.ownBlock]
                · simp [LOp.den]
                · intro hn
                  have := le_den hn
                  simp only [IE.den] at this
                  simp
                  omega
              · cases h
            · cases h
          · rename_i room a1 b hr hx hy
            split at h
            · rename_i ra rb hra hrb
              obtain ⟨hmema, rfl⟩ := getRow_mem hra
              obtain ⟨hmem, rfl⟩ := getRow_mem hrb
              split at h
              · rename_i hc
                simp only [Bool.and_eq_true, decide_eq_true_eq] at hc
                obtain ⟨⟨⟨⟨⟨⟨⟨hown, hga⟩, hgb⟩, hea⟩, heb⟩, hks⟩, hab⟩, hce⟩ := hc
                have ex := opndL_den hx trueDen hs.tmps
                simp only [Leaf.den] at ex
                have hda : ra.g.den env = true := by rw [hga]; rfl
                have hrow := hs.mem.row ra hmema hda
                have hown' := hrow.2
                rw [if_pos hown, hea] at hown'
                have hfoot : ra.foot env ph = (ph.val ra.id).ownBlock := by simp [Row.foot, hown]
                rw [hks] at h hown' hce
                refine append_loud (v := ph.val ra.id) (xs := (env ra.lv).list) hs ho.symm hu hr ex hy hmem hgb hce hown' ?_ (fun r hr => (List.mem_filter.1 hr).1) (fun b hb e => hs.mem.br b hb ra hmema hda (by rw [hfoot, e])) (fun r hr h1 k hk e => ?_) ?_ ?_ h hk
                · rw [← ho]
                  simp [opW, hx]
                · have hm := List.mem_filter.1 hr
                  exact hs.mem.rr ra hmema r hm.1 (fun e => by simp [e] at hm) hown hda h1 k (by rw [hfoot, e]) hk
                · rfl
                · intro hn
                  have := le_den hn
                  rw [IE.den_mk] at this
                  simp only [IE.den] at this
                  omega
              · cases h
            · cases h
          · cases h
        · cases h
      · cases h
    · cases h
  · cases h

end Go.Sx
