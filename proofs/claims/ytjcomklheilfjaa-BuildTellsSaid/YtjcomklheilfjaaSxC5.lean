/- The symbolic executor: quiet operations. -/
import Derived.Test.YtjcomklheilfjaaSxC4
set_option linter.unusedVariables false
set_option linter.unusedSimpArgs false
namespace Go.Sx
open Go.RowKit

variable {env : Env} {ph : Ph} {P : Program}

theorem Leaf.den_cells (l : Leaf) : (l.den env ph).cells = #[l.den env ph] := by
  cases l with
  | ep row sz x j => simp only [Leaf.den]; cases (ph.v row).1 <;> rfl
  | _ => rfl

theorem V1.den_cells (v : V1) : (v.den env ph).cells = (v.leaves.map (Leaf.den env ph)).toArray := by
  cases v with
  | one l => simp [V1.den, V1.leaves, Leaf.den_cells]
  | agg ls => simp [V1.den, V1.leaves, Value.cells]

theorem Leaf.den_oneCell (l : Leaf) : (l.den env ph).oneCell' = true := by
  cases l with
  | ep row sz x j => simp only [Leaf.den]; cases (ph.v row).1 <;> rfl
  | _ => rfl

/-! ### A struct or an array out of its parts -/
theorem putCells_map : ∀ (ls cells : List Leaf) (off : Nat), (putCells cells off ls).map (Leaf.den env ph) =
    ((ls.map (Leaf.den env ph)).zipIdx 0).foldl (fun cs x => cs.set (off + x.2) x.1) (cells.map (Leaf.den env ph)) := by
  have gen : ∀ (ls cells : List Leaf) (off k : Nat), (putCells cells (off + k) ls).map (Leaf.den env ph) =
      ((ls.map (Leaf.den env ph)).zipIdx k).foldl (fun cs x => cs.set (off + x.2) x.1) (cells.map (Leaf.den env ph)) := by
    intro ls
    induction ls with
    | nil => intro cells off k; rfl
    | cons l ls ih =>
      intro cells off k
      simp only [putCells, List.map_cons, List.zipIdx_cons, List.foldl_cons]
      rw [show off + k + 1 = off + (k + 1) by omega, ih]
      simp [List.map_set]
  intro ls cells off
  simpa using gen ls cells off 0

theorem putCells_length : ∀ (ls cells : List Leaf) (off : Nat), (putCells cells off ls).length = cells.length := by
  intro ls
  induction ls with
  | nil => intro cells off; rfl
  | cons l ls ih => intro cells off; simp [putCells, ih]

theorem foldl_set (vs : List Value) (cs : Array Value) (off : Nat) :
    (vs.toArray.zipIdx.foldl (fun cs (x : Value × Nat) => cs.setIfInBounds (off + x.2) x.1) cs).toList = (vs.zipIdx 0).foldl (fun cs x => cs.set (off + x.2) x.1) cs.toList := by
  rw [← Array.foldl_toList]
  simp only [Array.toList_zipIdx, List.toList_toArray]
  generalize vs.zipIdx 0 = l
  induction l generalizing cs with
  | nil => rfl
  | cons x l ih => simp only [List.foldl_cons]; rw [ih]; simp

theorem fillQ_fill (place : Nat → Option (Nat × Nat)) : ∀ (ps : List (Nat × V1)) (cells r : List Leaf), fillQ place cells ps = some r →
    Instr.fill place (cells.map (Leaf.den env ph)).toArray (ps.map fun p => (p.1, p.2.den env ph)) = some (r.map (Leaf.den env ph)).toArray := by
  intro ps
  induction ps with
  | nil => intro cells r h; simp only [fillQ, Option.some.injEq] at h; subst h; rfl
  | cons p ps ih =>
    intro cells r h
    obtain ⟨i, v⟩ := p
    simp only [fillQ] at h
    split at h
    · cases h
    · rename_i off size hp
      split at h
      · cases h
      · rename_i hc
        simp only [not_or, ne_eq, Decidable.not_not, Nat.not_lt] at hc
        simp only [List.map_cons, Instr.fill, hp, V1.den_cells]
        rw [if_neg (by simp; omega)]
        rw [← ih _ _ h]
        congr 1
        apply Array.ext'
        rw [foldl_set]
        simp [putCells_map]

theorem opndParts_den {st : St} {G : BE} {a : Act} (hG : G.den env = true) (ht : TmpsOk env ph st.tmps a.tmps) : ∀ {l : List (Nat × Operand)} {ps : List (Nat × V1)}, opndParts st G l = some ps →
    (l.map fun p => (p.1, a.eval p.2)) = ps.map fun p => (p.1, p.2.den env ph) := by
  intro l
  induction l with
  | nil => intro ps h; simp only [opndParts, Option.some.injEq] at h; subst h; rfl
  | cons p l ih =>
    intro ps h
    obtain ⟨i, x⟩ := p
    simp only [opndParts] at h
    split at h
    · rename_i v l' h1 h2
      simp only [Option.some.injEq] at h; subst h
      simp only [List.map_cons, ih h2, opnd1_den h1 hG ht]
    · cases h

theorem zeroLeaf_den {v : Value} {l : Leaf} (h : zeroLeaf v = some l) : l.den env ph = v := by
  unfold zeroLeaf at h
  split at h <;> simp only [Option.some.injEq, reduceCtorEq] at h <;> subst h <;> rfl

theorem mapM_zeroLeaf : ∀ {vs : List Value} {ls : List Leaf}, vs.mapM zeroLeaf = some ls → ls.map (Leaf.den env ph) = vs := by
  intro vs
  induction vs with
  | nil => intro ls h; simp at h; subst h; rfl
  | cons v vs ih =>
    intro ls h
    rw [List.mapM_cons] at h
    simp only [bind, Option.bind_eq_some_iff, pure, Option.some.injEq] at h
    obtain ⟨l, h1, ls', h2, rfl⟩ := h
    simp [zeroLeaf_den h1, ih h2]

theorem zeroQ_run {t : TypeId} {v : V1} {w : World} (h : zeroQ P t = some v) : (zeroValue t).run P w = .ok (v.den env ph) w := by
  unfold zeroQ at h
  cases hi : P.info? t with
  | none => simp [hi] at h
  | some i =>
    cases hz : i.zero with
    | none => simp [hi, hz] at h
    | some z =>
      simp only [hi, Option.bind_some, hz] at h
      have : (zeroValue t).run P w = .ok z w := by simp [zeroValue, typeInfo, hi, hz]
      rw [this]
      congr 1
      split at h
      · rename_i cs e
        simp only [Option.map_eq_some_iff] at h
        obtain ⟨ls, hls, rfl⟩ := h
        simp only [Option.some.injEq] at e; subst e
        simp [V1.den, mapM_zeroLeaf hls]
      · rename_i u _ e
        simp only [Option.map_eq_some_iff] at h
        obtain ⟨l, hl, rfl⟩ := h
        simp only [Option.some.injEq] at e; subst e
        exact (zeroLeaf_den hl).symm
      · rename_i e; cases e

theorem run_sizeOf_some {t : TypeId} {w : World} (h : (P.info? t).isSome = true) : (sizeOf t).run P w = .ok (P.cellsOf t) w := by
  obtain ⟨i, hi⟩ := Option.isSome_iff_exists.1 h
  simp [sizeOf, typeInfo, hi, Program.cellsOf]

theorem run_places {w : World} : ∀ (fs : List Field), fs.all (fun f => (P.info? f.type).isSome) = true →
    (fs.mapM fun (f : Field) => (do pure (f.offset, ← sizeOf f.type) : Sem (Nat × Nat))).run P w = .ok (fs.map fun (f : Field) => (f.offset, P.cellsOf f.type)) w := by
  intro fs
  induction fs with
  | nil => intro _; rfl
  | cons f fs ih =>
    intro h
    simp only [List.all_cons, Bool.and_eq_true] at h
    rw [List.mapM_cons]
    simp only [Sem.run_bind, run_sizeOf_some h.1, Result.andThen_ok, Sem.run_pure, ih h.2, List.map_cons]

theorem run_build {t : TypeId} {parts : Array (Nat × Value)} {ps : List (Nat × V1)} {z r : List Leaf} {place : Nat → Option (Nat × Nat)} {w : World} (hz : zeroQ P t = some (.agg z)) (hp : buildPlace P t = some place)
    (hf : fillQ place z ps = some r) (hps : parts.toList = ps.map fun p => (p.1, p.2.den env ph)) : (Instr.build t parts).run P w = .ok (.agg (r.map (Leaf.den env ph)).toArray) w := by
  have hzr := zeroQ_run (env := env) (ph := ph) (w := w) hz
  have hfill := fillQ_fill (env := env) (ph := ph) place ps z r hf
  unfold buildPlace at hp
  simp only [Instr.build, Sem.run_bind, hzr, Result.andThen_ok, V1.den_cells, V1.leaves]
  split at hp
  · rename_i fs hu
    split at hp
    · rename_i hall
      simp only [Option.some.injEq] at hp; subst hp
      simp only [run_underlying hu, Result.andThen_ok, Sem.run_bind]
      have hpl := run_places (P := P) (w := w) fs.toList hall
      have : (fs.mapM fun (f : Field) => (do pure (f.offset, ← sizeOf f.type) : Sem (Nat × Nat))).run P w = .ok (fs.map fun (f : Field) => (f.offset, P.cellsOf f.type)) w := by
        rw [Array.mapM_eq_mapM_toList]
        simp only [Sem.run_map, hpl, Result.andThen_ok]
        congr 1
        apply Array.ext'
        simp
      rw [this]
      simp only [Result.andThen_ok, hps]
      have e : (fun (x : Nat) => (fs.map fun (f : Field) => (f.offset, P.cellsOf f.type))[x]?) = fun (i : Nat) => (fs[i]?).map fun (f : Field) => (f.offset, P.cellsOf f.type) := by
        funext i; simp
      rw [e, hfill]
      rfl
    · cases hp
  · rename_i n e hu
    split at hp
    · rename_i hi
      simp only [Option.some.injEq] at hp; subst hp
      simp only [run_underlying hu, Result.andThen_ok, Sem.run_bind, run_sizeOf_some hi, hps, hfill]
      rfl
    · cases hp
  · cases hp

/-! ### Builtins -/
theorem run_builtinV {o : Oper} {a : Act} {b : Builtin} {args : Array Operand} {ats : Array TypeId} {w : World} {x : Value} (ho : o.op = .call { callee := .builtin b, args, argTypes := ats })
    (hb : ∀ ts ty cs vs, builtin b ts ty cs vs = (do pure (.value (← (match b with | .len => Builtin.len_ ts ty vs | .max => Builtin.max_ ts ty vs | .min => Builtin.min_ ts ty vs | _ => Builtin.append_ ts ty vs)))))
    (hr : (match b with | .len => Builtin.len_ ats o.type (args.map a.eval) | .max => Builtin.max_ ats o.type (args.map a.eval) | .min => Builtin.min_ ats o.type (args.map a.eval) | _ => Builtin.append_ ats o.type (args.map a.eval)).run P w = .ok x w) :
    (execOp a.eval o).run P w = .ok (.value x) w := by
  simp only [execOp, ho, resolve, Sem.run_bind, Sem.run_pure, Result.andThen_ok, invoke, hb, hr]

theorem map_two {args : Array Operand} {x y : Operand} (h : args.toList = [x, y]) (f : Operand → Value) : args.map f = #[f x, f y] := by
  apply Array.ext'; simp [h]
theorem map_three {args : Array Operand} {x y z : Operand} (h : args.toList = [x, y, z]) (f : Operand → Value) : args.map f = #[f x, f y, f z] := by
  apply Array.ext'; simp [h]
theorem map_one {args : Array Operand} {x : Operand} (h : args.toList = [x]) (f : Operand → Value) : args.map f = #[f x] := by
  apply Array.ext'; simp [h]

theorem max_if (a b : Int) : (if b > a then b else a) = Max.max a b := by omega
theorem min_if (a b : Int) : (if b < a then b else a) = Min.min a b := by omega

theorem shiftEp_den {row sz : Nat} {i : IE} {j o : Nat} : (shiftEp row sz i j o).den env ph = (Leaf.ep row sz i (j + o)).den env ph := by
  unfold shiftEp
  split
  · simp only [Leaf.den, IE.den, Int.toNat_natCast, Nat.mul_one, Nat.add_zero, Nat.zero_add]
    rfl
  · rfl
theorem capLeaf_den {c : Bool × Nat} : (capLeaf c).den env ph = capDen ph c := by
  unfold capLeaf capDen
  split
  · simp only [Leaf.den, IE.den]
    cases (ph.v c.2).1 with
    | none => rfl
    | some a => simp [Addr.add_zero']
  · rfl
theorem opndCaps_den {st : St} {G : BE} {a : Act} (hG : G.den env = true) (ht : TmpsOk env ph st.tmps a.tmps) : ∀ {xs : List Operand} {caps : List (Bool × Nat)}, opndCaps st G xs = some caps → xs.map a.eval = caps.map (capDen ph) := by
  intro xs
  induction xs with
  | nil => intro caps h; simp only [opndCaps, Option.some.injEq] at h; subst h; rfl
  | cons x xs ih =>
    intro caps h
    simp only [opndCaps] at h
    split at h
    · rename_i id l hx hl
      simp only [Option.some.injEq] at h; subst h
      have := capLeaf_den (env := env) (ph := ph) (c := (false, id))
      simp only [List.map_cons, ih hl, opndL_den hx hG ht, ← this]
      rfl
    · rename_i row l hx hl
      simp only [Option.some.injEq] at h; subst h
      have := capLeaf_den (env := env) (ph := ph) (c := (true, row))
      simp only [List.map_cons, ih hl, opndL_den hx hG ht, ← this]
      rfl
    · cases h

/-- The block that a quiet operation loads from. -/
def opBlk (st : St) (G : BE) (ph : Ph) : Op → Option Nat
  | .load _ x => (opndL st G x).bind (leafBlk ph)
  | _ => none

theorem qop_run {B : Nat} {wr : Bool} {st : St} {G : BE} {o : Oper} {ns : List BE} {sv : SV} {a : Act} {w w' : World} (h : qop P wr st G o.op = some (ns, sv)) (hG : G.den env = true)
    (hn : ∀ n ∈ ns, n.den env = true) (ht : TmpsOk env ph st.tmps a.tmps) (hm : MemOk B env ph st.blks st.rows w) (hw : ∀ k, opBlk st G ph o.op = some k → w'.heap[k]? = w.heap[k]?) :
    (execOp a.eval o).run P w' = .ok (.value (sv.den env ph)) w' := by
  unfold qop at h
  split at h
  · -- move
    rename_i x heq
    simp only [Option.map_eq_some_iff, Prod.mk.injEq] at h
    obtain ⟨v, hv, rfl, rfl⟩ := h
    simp only [execOp, heq, Sem.run_pure, opnd_den hv hG ht]
  · -- assign
    rename_i x heq
    simp only [Option.map_eq_some_iff, Prod.mk.injEq] at h
    obtain ⟨v, hv, rfl, rfl⟩ := h
    simp only [execOp, heq, Sem.run_pure, opnd_den hv hG ht]
  · -- pick
    rename_i c x y heq
    split at h
    · rename_i p hp
      split at h
      · rename_i bx by' hx hy
        simp only [Option.some.injEq, Prod.mk.injEq] at h
        obtain ⟨rfl, rfl⟩ := h
        have ec := opndL_den hp hG ht
        simp only [Leaf.den] at ec
        have res : ∀ q : BE, q.den env = (if p.den env then bx.den env else by'.den env) → (execOp a.eval o).run P w' = .ok (.value (.bool (q.den env))) w' := by
          intro q hq
          simp only [execOp, heq, ec, asBool, Sem.run_bind, Sem.run_pure, Result.andThen_ok, hq]
          cases hpd : p.den env with
          | true =>
            have := opndL_den hx (by rw [BE.den_mk]; simp [BE.den, hG, hpd]) ht
            simp [this, Leaf.den]
          | false =>
            have := opndL_den hy (by rw [BE.den_mk]; simp [BE.den, BE.den_mk, hG, hpd]) ht
            simp [this, Leaf.den]
        refine res _ ?_
        split
        all_goals
          simp only [BE.den_mk, BE.den]
          cases p.den env <;> simp
      · cases h
    · cases h
  · -- eql
    rename_i t x y u heq
    split at h
    · rename_i k e k' e' h1 h2
      simp only [Option.map_eq_some_iff, Prod.mk.injEq] at h
      obtain ⟨⟨ns', l⟩, hb, rfl, rfl⟩ := h
      have := binQ_run (P := P) (w := w') (ph := ph) t x y hb hn
      simp only [execOp, heq, opnd1_den h1 hG ht, opnd1_den h2 hG ht, V1.den]
      simp only [Sem.run_bind] at this ⊢
      rw [this]
      rfl
    · rename_i e e' _ h1 h2
      simp only [Option.map_eq_some_iff, Prod.mk.injEq] at h
      obtain ⟨p, hb, rfl, rfl⟩ := h
      have := (eqQ_run (P := P) (w := w') (env := env) (ph := ph) hb x y).1
      simp only [execOp, heq, opnd1_den h1 hG ht, opnd1_den h2 hG ht]
      simp only [Sem.run_bind] at this ⊢
      rw [this]
      rfl
    · cases h
  · -- neq
    rename_i t x y u heq
    split at h
    · rename_i k e k' e' h1 h2
      simp only [Option.map_eq_some_iff, Prod.mk.injEq] at h
      obtain ⟨⟨ns', l⟩, hb, rfl, rfl⟩ := h
      have := binQ_run (P := P) (w := w') (ph := ph) t x y hb hn
      simp only [execOp, heq, opnd1_den h1 hG ht, opnd1_den h2 hG ht, V1.den]
      simp only [Sem.run_bind] at this ⊢
      rw [this]
      rfl
    · rename_i e e' _ h1 h2
      simp only [Option.map_eq_some_iff, Prod.mk.injEq] at h
      obtain ⟨p, hb, rfl, rfl⟩ := h
      have := (eqQ_run (P := P) (w := w') (env := env) (ph := ph) hb x y).2
      simp only [execOp, heq, opnd1_den h1 hG ht, opnd1_den h2 hG ht]
      simp only [Sem.run_bind] at this ⊢
      rw [this]
      simp [SV.den, V1.den, Leaf.den, BE.den_mk, BE.den]
    · cases h
  · -- another operator
    rename_i op t x y u _ _ heq
    split at h
    · rename_i l1 l2 h1 h2
      simp only [Option.map_eq_some_iff, Prod.mk.injEq] at h
      obtain ⟨⟨ns', l⟩, hb, rfl, rfl⟩ := h
      have := binQ_run (P := P) (w := w') (ph := ph) t x y hb hn
      simp only [execOp, heq, opndL_den h1 hG ht, opndL_den h2 hG ht]
      simp only [Sem.run_bind] at this ⊢
      rw [this]
      rfl
    · cases h
  · -- not
    rename_i t x heq
    split at h
    · rename_i p hp
      simp only [Option.some.injEq, Prod.mk.injEq] at h
      obtain ⟨rfl, rfl⟩ := h
      simp only [execOp, heq, opndL_den hp hG ht, Leaf.den, Op.unary, Sem.run_bind, Sem.run_pure, Result.andThen_ok, SV.den, V1.den, BE.den_mk, BE.den]
    · cases h
  · -- neg
    rename_i t x heq
    split at h
    · rename_i k e he
      simp only [Option.some.injEq, Prod.mk.injEq] at h
      obtain ⟨rfl, rfl⟩ := h
      have := arith_den (env := env) (ph := ph) hn
      simp only [execOp, heq, opndL_den he hG ht, Op.unary, Op.intArith, SV.den, V1.den, this]
      simp [Leaf.den, Op.unary, Op.intArith, IE.den]
    · cases h
  · -- convert
    rename_i src dst x heq
    split at h
    · rename_i k e d k' he hs hd
      have hk : P.intKind dst = k' := by simp [Program.intKind, hd]
      have hrun : ∀ n : Int, (convert src dst (.int k n)).run P w' = .ok (.int k' (k'.wrap n)) w' := fun n => by
        have := run_convert_int (P := P) w' src dst k n (by rw [hs]; rfl) (by rw [hk]; exact hd)
        rw [hk] at this; exact this
      split at h
      · simp only [Option.some.injEq, Prod.mk.injEq] at h
        obtain ⟨rfl, rfl⟩ := h
        have := arith_den (env := env) (ph := ph) hn
        simp only [SV.den, V1.den, this]
        simp only [execOp, heq, opndL_den he hG ht, Leaf.den, Sem.run_bind, hrun, Result.andThen_ok, Sem.run_pure]
      · simp only [Option.some.injEq, Prod.mk.injEq] at h
        obtain ⟨rfl, rfl⟩ := h
        simp only [execOp, heq, opndL_den he hG ht, Leaf.den, Sem.run_bind, hrun, Result.andThen_ok, Sem.run_pure, SV.den, V1.den, IE.den_mk, IE.den]
    · cases h
  · -- load
    rename_i t x heq
    split at h
    · rename_i l hl
      simp only [Option.map_eq_some_iff, Prod.mk.injEq] at h
      obtain ⟨⟨ns', v⟩, hb, rfl, rfl⟩ := h
      have := loadQ_run (w' := w') hb hG hn hm (fun k hk => hw k (by simp [opBlk, heq, hl, hk]))
      simp only [execOp, heq, opndL_den hl hG ht, Sem.run_bind, this, Result.andThen_ok, Sem.run_pure, SV.den]
    · cases h
  · -- fieldAddr
    rename_i s x f heq
    have hfo : ∀ o' t', fieldOff P s f = some (o', t') → ∀ ad : Addr, (Instr.fieldAt s (.pointer (some ad)) f).run P w' = .ok (.pointer (some (ad.add o'))) w' := by
      intro o' t' ho ad
      unfold fieldOff at ho
      split at ho
      · rename_i fs hu
        split at ho
        · rename_i fd hfd
          split at ho
          · cases ho
          · rename_i hne
            simp only [Option.some.injEq, Prod.mk.injEq] at ho
            obtain ⟨rfl, rfl⟩ := ho
            simp only [Instr.fieldAt, Sem.run_bind, run_underlying hu, Result.andThen_ok, hfd, Instr.sureAddr, Sem.run_pure, fieldPlace, run_sizeOf' (P := P) (w := w') (t := fd.type) (by omega)]
            simp [hne]
        · cases ho
      · cases ho
    split at h
    · rename_i id off o' t' hx ho
      simp only [Option.some.injEq, Prod.mk.injEq] at h
      obtain ⟨rfl, rfl⟩ := h
      simp only [execOp, heq, opndL_den hx hG ht, Leaf.den, Sem.run_bind, hfo _ _ ho, Result.andThen_ok, Sem.run_pure, SV.den, V1.den, add_at]
    · rename_i id off sz n z o' t' hx ho
      simp only [Option.some.injEq, Prod.mk.injEq] at h
      obtain ⟨rfl, rfl⟩ := h
      simp only [execOp, heq, opndL_den hx hG ht, Leaf.den, Sem.run_bind, hfo _ _ ho, Result.andThen_ok, Sem.run_pure, SV.den, V1.den, add_at]
      rw [show off + (z.den env).toNat * sz + o' = off + o' + (z.den env).toNat * sz by omega]
    · rename_i row sz z j o' t' hx ho
      split at h
      · rename_i r hr
        split at h
        · rename_i hc
          simp only [Option.some.injEq, Prod.mk.injEq] at h
          obtain ⟨rfl, rfl⟩ := h
          obtain ⟨hmem, rfl⟩ := getRow_mem hr
          have h0 := le_den (hn _ (List.mem_cons_self ..))
          have h1 := lt_den (hn _ (List.mem_cons_of_mem _ (List.mem_cons_self ..)))
          simp only [IE.den] at h0 h1
          obtain ⟨ad, cap, hva, _⟩ := row_at (hm.row r hmem (BE.says_den hc hG)) h0 h1
          simp only [SV.den, V1.den, shiftEp_den]
          simp only [execOp, heq, opndL_den hx hG ht, Leaf.den, hva, Sem.run_bind, hfo _ _ ho, Result.andThen_ok, Sem.run_pure, add_add', Nat.add_assoc]
        · cases h
      · cases h
    · cases h
  · -- field
    rename_i s x f heq
    split at h
    · rename_i cs o' t' hx ho
      simp only [Option.map_eq_some_iff, Prod.mk.injEq] at h
      obtain ⟨v, hv, rfl, rfl⟩ := h
      unfold fieldOff at ho
      split at ho
      · rename_i fs hu
        split at ho
        · rename_i fd hfd
          split at ho
          · cases ho
          · simp only [Option.some.injEq, Prod.mk.injEq] at ho
            obtain ⟨rfl, rfl⟩ := ho
            simp only [execOp, heq, opnd1_den hx hG ht, V1.den, Instr.field, Sem.run_bind, run_underlying hu, Result.andThen_ok, hfd, asAgg, Sem.run_pure, run_partV hv, SV.den]
        · cases ho
      · cases ho
    · cases h
  · -- indexAddr
    rename_i t x i heq
    split at h
    · rename_i l k e hl hi
      simp only [Option.map_eq_some_iff, Prod.mk.injEq] at h
      obtain ⟨⟨ns', l'⟩, hb, rfl, rfl⟩ := h
      simp only [execOp, heq, opndL_den hl hG ht, opndL_den hi hG ht, Sem.run_bind, SV.den, V1.den]
      have : (Instr.indexAt t (l.den env ph) ((Leaf.i k e).den env ph)).run P w' = .ok (l'.den env ph) w' := by
        unfold indexQ at hb
        split at hb
        · rename_i len el id off hu
          have he : P.elem t = el := by simp [Program.elem, hu]
          have hlen : P.arrayLen t = len := by simp [Program.arrayLen, hu]
          split at hb
          · rename_i n
            split at hb
            · rename_i hc
              simp only [Option.some.injEq, Prod.mk.injEq] at hb
              obtain ⟨rfl, rfl⟩ := hb
              simp only [Leaf.den, IE.den]
              rw [run_indexAt_array w' t _ k n (by rw [he, hlen]; exact hu), he, hlen, if_pos ⟨hc.1, hc.2.1⟩]
              rw [run_sizeOf_some hc.2.2.2]
              simp only [Result.andThen_ok, add_at]
            · cases hb
          · rename_i hne
            split at hb
            · rename_i hc
              simp only [Option.some.injEq, Prod.mk.injEq] at hb
              obtain ⟨rfl, rfl⟩ := hb
              have h0 := le_den (hn _ (List.mem_cons_self ..))
              have h1 := lt_den (hn _ (List.mem_cons_of_mem _ (List.mem_cons_self ..)))
              simp only [IE.den] at h0 h1
              simp only [Leaf.den]
              rw [run_indexAt_array w' t _ k _ (by rw [he, hlen]; exact hu), he, hlen, if_pos ⟨h0, h1⟩]
              rw [run_sizeOf_some hc.2]
              simp only [Result.andThen_ok, add_at]
            · cases hb
        · rename_i len el row sz r j hu
          have he : P.elem t = el := by simp [Program.elem, hu]
          have hlen : P.arrayLen t = len := by simp [Program.arrayLen, hu]
          split at hb
          · rename_i rq hrq
            split at hb
            · rename_i hc
              obtain ⟨rfl, rfl, hc3, hc4, hc5, hc6, hc7⟩ := hc
              simp only [Option.some.injEq, Prod.mk.injEq] at hb
              obtain ⟨rfl, rfl⟩ := hb
              obtain ⟨hmem, rfl⟩ := getRow_mem hrq
              have h0 := le_den (hn _ (List.mem_cons_self ..))
              have h1 := lt_den (hn _ (List.mem_cons_of_mem _ (List.mem_cons_self ..)))
              have h2 := lt_den (hn _ (List.mem_cons_of_mem _ (List.mem_cons_of_mem _ (List.mem_cons_self ..))))
              simp only [IE.den] at h0 h1 h2
              obtain ⟨ad, cap, hva, _⟩ := row_at (hm.row rq hmem (BE.says_den hc7 hG)) h0 h2
              simp only [Leaf.den, IE.den, hva]
              rw [run_indexAt_array w' t _ k _ (by rw [he, hlen]; exact hu), he, hlen, if_pos ⟨h0, h1⟩]
              rw [run_sizeOf_some hc5]
              simp only [Result.andThen_ok, add_add', hc4, Int.toNat_zero, Nat.zero_mul, Nat.zero_add, Nat.add_zero]
            · split at hb
              · rename_i n
                split at hb
                · rename_i rr hrr
                  split at hb
                  · rename_i hc
                    simp only [Option.some.injEq, Prod.mk.injEq] at hb
                    obtain ⟨rfl, rfl⟩ := hb
                    simp only [Option.some.injEq] at hrr
                    subst hrr
                    obtain ⟨hmem, rfl⟩ := getRow_mem hrq
                    have h0 := le_den (hn _ (List.mem_cons_self ..))
                    have h1 := lt_den (hn _ (List.mem_cons_of_mem _ (List.mem_cons_self ..)))
                    simp only [IE.den] at h0 h1
                    obtain ⟨ad, cap, hva, _⟩ := row_at (hm.row rq hmem (BE.says_den hc.2.2.2.2 hG)) h0 h1
                    simp only [Leaf.den, IE.den, hva]
                    rw [run_indexAt_array w' t _ k n (by rw [he, hlen]; exact hu), he, hlen, if_pos ⟨hc.1, hc.2.1⟩]
                    rw [run_sizeOf_some hc.2.2.2.1]
                    simp only [Result.andThen_ok, add_add', Nat.add_assoc]
                  · cases hb
                · cases hb
              · cases hb
          · cases hb
        · rename_i el row hu
          have he : P.elem t = el := by simp [Program.elem, hu]
          split at hb
          · rename_i r hr
            split at hb
            · rename_i hc
              simp only [Bool.and_eq_true, decide_eq_true_eq] at hc
              simp only [Option.some.injEq, Prod.mk.injEq] at hb
              obtain ⟨rfl, rfl⟩ := hb
              obtain ⟨hmem, rfl⟩ := getRow_mem hr
              have h0 := le_den (hn _ (List.mem_cons_self ..))
              have h1 := lt_den (hn _ (List.mem_cons_of_mem _ (List.mem_cons_self ..)))
              simp only [IE.den] at h0 h1
              have hrow := hm.row r hmem (BE.says_den hc.1 hG)
              obtain ⟨ad, cap, hva, _⟩ := row_at hrow h0 h1
              simp only [Leaf.den, IE.den, Ph.val, hva]
              rw [run_indexAt_slice w' t ad _ cap k _ (by rw [he]; exact hu), he, if_pos ⟨h0, h1⟩]
              rw [run_sizeOf' (by rw [hc.2]; exact hrow.1), hc.2]
              simp only [Result.andThen_ok, Nat.add_zero]
            · cases hb
          · cases hb
        · cases hb
      rw [this]
      rfl
    · cases h
  · -- index
    rename_i t x i heq
    split at h
    · rename_i cs k n len el hx hi hu
      split at h
      · rename_i hc
        simp only [Option.map_eq_some_iff, Prod.mk.injEq] at h
        obtain ⟨v, hv, rfl, rfl⟩ := h
        obtain ⟨hlook, _⟩ := partQ_spec hv
        simp only [execOp, heq, opnd1_den hx hG ht, opndL_den hi hG ht, V1.den, Leaf.den, IE.den, Instr.index, asIntOf, Sem.run_bind, Sem.run_pure, Result.andThen_ok, run_underlying hu]
        simp only [hc, and_self, if_true, Sem.run_bind, run_sizeOf' hlook.2.1, Result.andThen_ok, run_partV hv, Sem.run_pure, SV.den]
      · cases h
    · cases h
  · -- nilCheck
    rename_i x heq
    split at h
    · rename_i id off hx
      simp only [Option.some.injEq, Prod.mk.injEq] at h
      obtain ⟨rfl, rfl⟩ := h
      simp only [execOp, heq, opndL_den hx hG ht, Leaf.den, Sem.run_pure, SV.den, V1.den]
    · rename_i row sz i j hx
      split at h
      · rename_i r hr
        split at h
        · rename_i hc
          simp only [Option.some.injEq, Prod.mk.injEq] at h
          obtain ⟨rfl, rfl⟩ := h
          have h1 := lt_den (hn _ (List.mem_cons_self ..))
          simp only [IE.den] at h1
          obtain ⟨hmem, rfl⟩ := getRow_mem hr
          obtain ⟨ad, cap, hva, _⟩ := row_at (hm.row r hmem (BE.says_den hc hG)) (i := 0) (Int.le_refl _) h1
          simp only [execOp, heq, opndL_den hx hG ht, Leaf.den, hva, Sem.run_pure, SV.den, V1.den]
        · cases h
      · cases h
    · cases h
  · -- makeFunc
    rename_i g first captured heq
    split at h
    · rename_i hf
      simp only [Option.map_eq_some_iff, Prod.mk.injEq] at h
      obtain ⟨caps, hc, rfl, rfl⟩ := h
      have e := opndCaps_den hG ht hc
      have e1 : first.map a.eval = #[] := by apply Array.ext'; simp [hf]
      have e2 : captured.map a.eval = (caps.map (capDen ph)).toArray := by apply Array.ext'; simpa using e
      simp only [execOp, heq, Instr.makeFunc, e1, e2, Sem.run_bind, Sem.run_pure, Result.andThen_ok, SV.den, V1.den, Leaf.den]
    · cases h
  · -- extract
    rename_i x n heq
    split at h
    · rename_i xs hx
      simp only [Option.map_eq_some_iff, Prod.mk.injEq] at h
      obtain ⟨v, hv, rfl, rfl⟩ := h
      simp only [execOp, heq, opnd_den hx hG ht, SV.den, Instr.extract, List.getElem?_toArray, List.getElem?_map, hv, Option.map_some, Sem.run_bind, Sem.run_pure, Result.andThen_ok]
    · cases h
  · -- build
    rename_i t parts heq
    split at h
    · rename_i z place ps hz hp hps
      simp only [Option.map_eq_some_iff, Prod.mk.injEq] at h
      obtain ⟨cs, hcs, rfl, rfl⟩ := h
      have e := opndParts_den hG ht hps
      have := run_build (env := env) (ph := ph) (w := w') (parts := parts.map fun (i, x) => (i, a.eval x)) hz hp hcs (by rw [Array.toList_map]; exact e)
      simp only [execOp, heq, Sem.run_bind, this, Result.andThen_ok, Sem.run_pure, SV.den, V1.den]
    · cases h
  · -- len
    rename_i args ats heq
    split at h
    · rename_i x el hargs hat
      have hats : ∃ t, ats[0]? = some t ∧ P.underlying t = some (.slice el) := by
        simp only [Option.bind_eq_some_iff] at hat
        exact hat
      obtain ⟨t, ht0, htu⟩ := hats
      have he : P.elem t = el := by simp [Program.elem, htu]
      have hrun : ∀ b n c, (Builtin.len_ ats o.type #[.slice b n c]).run P w' = .ok (goInt n) w' := fun b n c => by
        simp [Builtin.len_, ht0, run_underlying htu]
      split at h
      · rename_i row hrow
        split at h
        · rename_i r hr
          split at h
          · rename_i hg
            simp only [Option.some.injEq, Prod.mk.injEq] at h
            obtain ⟨rfl, rfl⟩ := h
            obtain ⟨hmem, rfl⟩ := getRow_mem hr
            obtain ⟨base, cap, hv, _⟩ := (hm.row r hmem (BE.says_den hg hG)).reads
            refine run_builtinV heq (fun _ _ _ _ => rfl) ?_
            simp only [map_one hargs, opndL_den hrow hG ht, Leaf.den, hv, hrun]
            rfl
          · cases h
        · cases h
      · rename_i hnil
        simp only [Option.some.injEq, Prod.mk.injEq] at h
        obtain ⟨rfl, rfl⟩ := h
        refine run_builtinV heq (fun _ _ _ _ => rfl) ?_
        simp only [map_one hargs, opndL_den hnil hG ht, Leaf.den, hrun]
        rfl
      · cases h
    · cases h
  · -- max
    rename_i args ats heq
    split at h
    · rename_i x y hargs
      split at h
      · rename_i k e1 k' e2 hx hy
        split at h
        · rename_i hk; subst hk
          simp only [Option.some.injEq, Prod.mk.injEq] at h
          obtain ⟨rfl, rfl⟩ := h
          refine run_builtinV heq (fun _ _ _ _ => rfl) ?_
          simp only [map_two hargs, opndL_den hx hG ht, opndL_den hy hG ht, Leaf.den, run_max_int2, max_if]
          simp [SV.den, V1.den, Leaf.den, IE.den_mk, IE.den]
        · cases h
      · cases h
    · rename_i x y z hargs
      split at h
      · rename_i k e1 k' e2 k'' e3 hx hy hz
        split at h
        · rename_i hk; obtain ⟨rfl, rfl⟩ := hk
          simp only [Option.some.injEq, Prod.mk.injEq] at h
          obtain ⟨rfl, rfl⟩ := h
          refine run_builtinV heq (fun _ _ _ _ => rfl) ?_
          simp only [map_three hargs, opndL_den hx hG ht, opndL_den hy hG ht, opndL_den hz hG ht, Leaf.den]
          simp [Builtin.max_, Builtin.max2, List.foldlM, SV.den, V1.den, Leaf.den, IE.den_mk, IE.den]
          omega
        · cases h
      · cases h
    · cases h
  · -- min
    rename_i args ats heq
    split at h
    · rename_i x y hargs
      split at h
      · rename_i k e1 k' e2 hx hy
        split at h
        · rename_i hk; subst hk
          simp only [Option.some.injEq, Prod.mk.injEq] at h
          obtain ⟨rfl, rfl⟩ := h
          refine run_builtinV heq (fun _ _ _ _ => rfl) ?_
          simp only [map_two hargs, opndL_den hx hG ht, opndL_den hy hG ht, Leaf.den, run_min_int2, min_if]
          simp [SV.den, V1.den, Leaf.den, IE.den_mk, IE.den]
        · cases h
      · cases h
    · rename_i x y z hargs
      split at h
      · rename_i k e1 k' e2 k'' e3 hx hy hz
        split at h
        · rename_i hk; obtain ⟨rfl, rfl⟩ := hk
          simp only [Option.some.injEq, Prod.mk.injEq] at h
          obtain ⟨rfl, rfl⟩ := h
          refine run_builtinV heq (fun _ _ _ _ => rfl) ?_
          simp only [map_three hargs, opndL_den hx hG ht, opndL_den hy hG ht, opndL_den hz hG ht, Leaf.den]
          simp [Builtin.min_, Builtin.min2, List.foldlM, SV.den, V1.den, Leaf.den, IE.den_mk, IE.den]
          omega
        · cases h
      · cases h
    · cases h
  · cases h

end Go.Sx
