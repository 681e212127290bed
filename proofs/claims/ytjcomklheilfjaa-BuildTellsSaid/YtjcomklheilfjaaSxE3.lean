/- The symbolic executor: an operation of a region. -/
import Derived.Test.YtjcomklheilfjaaSxE2
import Derived.Tactics
set_option linter.unusedVariables false
set_option linter.unusedSimpArgs false
namespace Go.Sx
open Go.RowKit

variable {env env' : Env} {ph ph' : Ph} {P : Program}

theorem opndLs_den {st : St} {G : BE} {a : Act} (hG : G.den env = true) (ht : TmpsOk env ph st.tmps a.tmps) : ∀ {xs : List Operand} {vs : List V1}, opndLs st G xs = some vs → xs.map a.eval = vs.map (V1.den env ph) := by
  intro xs
  induction xs with
  | nil => intro vs h; simp only [opndLs, Option.some.injEq] at h; subst h; rfl
  | cons x xs ih =>
    intro vs h
    simp only [opndLs] at h
    split at h
    · rename_i v l hv hl
      simp only [Option.some.injEq] at h; subst h
      simp [opnd1_den hv hG ht, ih hl]
    · cases h

/-- The rows that leaves name. -/
def rowsIn (ls : List Leaf) : List Nat := ls.filterMap fun | .s r => some r | _ => none

theorem leavesDE_ok {R : SliceRel} {st : St} {G : BE} (hnil : ∀ e ks, 0 < List.length ks → R e ks (.slice none 0 0) []) : ∀ {cs : List CT} {ls : List Leaf} {ds : List DE}, leavesDE st G cs ls = some ds →
    (∀ row ∈ rowsIn ls, ∀ r, getRow st row = some r → G.says r.g = true → R r.e r.ks (ph.val r.id) (env r.lv).list) → fitAll R cs (ls.map (Leaf.den env ph)) (ds.map (DE.den env)) := by
  intro cs
  induction cs with
  | nil => intro ls ds h _; cases ls with
    | nil => simp only [leavesDE, Option.some.injEq] at h; subst h; exact trivial
    | cons l ls => simp [leavesDE] at h
  | cons c cs ih => intro ls ds h hR; cases ls with
    | nil => simp [leavesDE] at h
    | cons l ls =>
      simp only [leavesDE] at h
      split at h
      · rename_i d ds' hd hds
        simp only [Option.some.injEq] at h; subst h
        refine ⟨?_, ih hds (fun row hrow => hR row (by cases l <;> simp_all [rowsIn]))⟩
        unfold leafDE at hd
        split at hd
        · split at hd
          · rename_i hk; subst hk
            simp only [Option.some.injEq] at hd; subst hd; rfl
          · cases hd
        · simp only [Option.some.injEq] at hd; subst hd; rfl
        · rename_i row
          split at hd
          · rename_i r hr
            split at hd
            · rename_i hc
              simp only [Bool.and_eq_true, decide_eq_true_eq] at hc
              obtain ⟨⟨hg, rfl⟩, rfl⟩ := hc
              simp only [Option.some.injEq] at hd; subst hd
              have := hR row (by simp [rowsIn]) r hr hg
              have hid := (getRow_mem hr).2
              subst hid
              exact this
            · cases hd
          · cases hd
        · split at hd
          · rename_i hks
            simp only [Option.some.injEq] at hd; subst hd
            exact hnil _ _ hks
          · cases hd
        · cases hd
      · cases h

def allLeaves (vs : List V1) : List Leaf := vs.flatMap V1.leaves

theorem noPtr_cons {t : VT} {ts : List VT} (h : noPtr (t :: ts) = true) : noPtr [t] = true ∧ noPtr ts = true := by
  cases t <;> simp_all [noPtr]
theorem noPtr_tail {t : VT} {ts : List VT} (h : noPtr ts = false) : noPtr (t :: ts) = false := by
  cases t <;> simp_all [noPtr]

theorem cellIEs_den {k : IntKind} : ∀ {ls : List Leaf} {es : List IE}, cellIEs k ls = some es → ls.map (Leaf.den env ph) = es.map (fun e => Value.int k (e.den env)) := by
  intro ls
  induction ls with
  | nil => intro es h; simp only [cellIEs, Option.some.injEq] at h; subst h; rfl
  | cons l ls ih =>
    intro es h
    unfold cellIEs at h
    split at h
    · rename_i heq; cases heq
    · rename_i k' e ls' heq
      simp only [List.cons.injEq] at heq
      obtain ⟨rfl, rfl⟩ := heq
      split at h
      · rename_i hk
        subst hk
        split at h
        · rename_i es' hes
          simp only [Option.some.injEq] at h; subst h
          simp only [List.map_cons, ih hes]
          rfl
        · cases h
      · cases h
    · cases h

theorem rows_flat {k : IntKind} : ∀ {es : List IE}, flatRows [.i k] (es.map fun e => [e.den env]) = es.map (fun e => Value.int k (e.den env)) := by
  intro es
  induction es with
  | nil => rfl
  | cons e es ih =>
    simp only [List.map_cons, flatRows, ih]
    rfl

/-- A pointer that is handed on. -/
theorem ptr_ok {B : Nat} {st : St} {w : World} {id : Nat} {b : Blk} {k : IntKind} {es : List IE} {e : TypeId} (hm : MemOk B env ph st.blks st.rows w) (hb : getBlk st id = some b) (hl : b.cells.length ≤ 65536) (hes : cellIEs k b.cells = some es) :
    ∃ cv, (Leaf.p id 0).den env ph = ptrOf cv ∧ fitAll (readsR w) [.s e [.i k]] [cv] [(DE.rows es).den env] := by
  obtain ⟨hmem, rfl⟩ := getBlk_mem hb
  obtain ⟨hB, hh⟩ := hm.blk b hmem
  have hc := cellIEs_den (env := env) (ph := ph) hes
  have hlen : es.length = b.cells.length := by have := congrArg List.length hc; simpa using this.symm
  refine ⟨.slice (some ⟨ph.r b.id, 0, none⟩) es.length es.length, rfl, ⟨⟨by simp, some ⟨ph.r b.id, 0, none⟩, es.length, by simp, ?_, fun h => (by cases h), fun j u hj => ⟨_, rfl, ?_⟩⟩, trivial⟩⟩
  · have : (65536 : Nat) ≤ maxLen := by decide
    simp only [List.length_map]
    omega
  · rw [rows_flat, ← hc] at hj
    rw [add_at, Nat.zero_add]
    unfold World.cell?
    simp [hh, hj]

theorem ptrDE_ok {w : World} {B : Nat} {st : St} {G : BE} {e : TypeId} {k : IntKind} {l : Leaf} {d : DE} (hm : MemOk B env ph st.blks st.rows w) (hG : G.den env = true) (h : ptrDE st G e k l = some d) :
    ∃ cv, l.den env ph = ptrOf cv ∧ fitAll (readsR w) [.s e [.i k]] [cv] [d.den env] := by
  unfold ptrDE at h
  split at h
  · split at h
    · rename_i b hb
      split at h
      · rename_i hl
        simp only [Option.map_eq_some_iff] at h
        obtain ⟨es, hes, rfl⟩ := h
        exact ptr_ok hm hb hl hes
      · cases h
    · cases h
  · rename_i row
    split at h
    · rename_i r hr
      split at h
      · rename_i hc
        simp only [Bool.and_eq_true, decide_eq_true_eq] at hc
        simp only [Option.some.injEq] at h
        subst h
        obtain ⟨hmem, rfl⟩ := getRow_mem hr
        have hrow := hm.row r hmem (BE.says_den hc.1.1 hG)
        refine ⟨ph.val r.id, ?_, ?_, trivial⟩
        · simp only [Leaf.den, IE.den, Ph.val, ptrOf]
          cases (ph.v r.id).1 with
          | none => rfl
          | some a => simp [Addr.add_zero']
        · show readsR w e [.i k] (ph.val r.id) (env r.lv).list
          refine ⟨by simp, ?_⟩
          have := hrow.reads
          rw [hc.2] at this
          exact this
      · cases h
    · cases h
  · cases h

theorem capsDE_ok {R : SliceRel} {st : St} {G : BE} : ∀ {cs : List (TypeId × IntKind)} {caps : List (Bool × Nat)} {ds : List DE}, capsDE st G cs caps = some ds →
    (∀ (e : TypeId) (k : IntKind) (l : Leaf) (d : DE), ptrDE st G e k l = some d → ∃ cv, l.den env ph = ptrOf cv ∧ fitAll R [.s e [.i k]] [cv] [d.den env]) →
    ∃ cvs : List Value, caps.map (capDen ph) = cvs.map ptrOf ∧ fitAll R (cs.map fun c => CT.s c.1 [.i c.2]) cvs (ds.map (DE.den env)) ∧ cvs.length = cs.length := by
  intro cs
  induction cs with
  | nil => intro caps ds h hP; cases caps with
    | nil => simp only [capsDE, Option.some.injEq] at h; subst h; exact ⟨[], rfl, trivial, rfl⟩
    | cons c caps => simp [capsDE] at h
  | cons c cs ih => intro caps ds h hP; cases caps with
    | nil => simp [capsDE] at h
    | cons cp caps =>
      simp only [capsDE] at h
      split at h
      · rename_i d ds' hd hds
        simp only [Option.some.injEq] at h; subst h
        obtain ⟨cvs, e1, e2, e3⟩ := ih hds hP
        obtain ⟨cv, f1, f2⟩ := hP _ _ _ _ hd
        rw [capLeaf_den] at f1
        exact ⟨cv :: cvs, by simp [e1, f1], ⟨f2.1, e2⟩, by simp [e3]⟩
      · cases h

theorem v1sDE_ok {R : SliceRel} {st : St} {G : BE} (hnil : ∀ e ks, 0 < List.length ks → R e ks (.slice none 0 0) []) : ∀ {ts : List VT} {vs : List V1} {ds : List DE}, v1sDE st G ts vs = some ds →
    (∀ row ∈ rowsIn (allLeaves vs), ∀ r, getRow st row = some r → G.says r.g = true → R r.e r.ks (ph.val r.id) (env r.lv).list) →
    (noPtr ts = false → ∀ (e : TypeId) (k : IntKind) (l : Leaf) (d : DE), ptrDE st G e k l = some d → ∃ cv, l.den env ph = ptrOf cv ∧ fitAll R [.s e [.i k]] [cv] [d.den env]) →
    ∃ cvs, vs.map (V1.den env ph) = mkVals ts cvs ∧ fitAll R (cts ts) cvs (ds.map (DE.den env)) ∧ (noPtr ts = true → cvs = (allLeaves vs).map (Leaf.den env ph)) := by
  intro ts
  induction ts with
  | nil => intro vs ds h _ _; cases vs with
    | nil => simp only [v1sDE, Option.some.injEq] at h; subst h; exact ⟨[], rfl, trivial, fun _ => rfl⟩
    | cons v vs => simp [v1sDE] at h
  | cons t ts ih => intro vs ds h hR hP; cases vs with
    | nil => simp [v1sDE] at h
    | cons v vs =>
      simp only [v1sDE] at h
      split at h
      · rename_i d ds' hd hds
        simp only [Option.some.injEq] at h; subst h
        have hal : allLeaves (v :: vs) = v.leaves ++ allLeaves vs := by simp [allLeaves]
        have hri : rowsIn (allLeaves (v :: vs)) = rowsIn v.leaves ++ rowsIn (allLeaves vs) := by rw [hal]; simp [rowsIn]
        obtain ⟨cvs, e1, e2, e5⟩ := ih hds (fun row hrow => hR row (by rw [hri]; exact List.mem_append_right _ hrow)) (fun hn => hP (noPtr_tail hn))
        have e : cts (t :: ts) = t.cts ++ cts ts := by simp [cts]
        rw [e]
        have hv : ∃ cv : List Value, fitAll R t.cts cv (d.map (DE.den env)) ∧ mkVals (t :: ts) (cv ++ cvs) = v.den env ph :: mkVals ts cvs ∧ (noPtr [t] = true → cv = v.leaves.map (Leaf.den env ph)) := by
          unfold v1DE at hd
          split at hd
          · rename_i c l
            simp only [Option.map_eq_some_iff] at hd
            obtain ⟨d1, hd1, rfl⟩ := hd
            have := leavesDE_ok (env := env) (ph := ph) hnil (cs := [c]) (ls := [l]) (ds := [d1]) (st := st) (G := G) (by simp [leavesDE, hd1]) (fun row hrow => hR row (by rw [hri]; exact List.mem_append_left _ hrow))
            exact ⟨_, this, rfl, fun _ => rfl⟩
          · rename_i cs ls
            have := leavesDE_ok (env := env) (ph := ph) hnil hd (fun row hrow => hR row (by rw [hri]; exact List.mem_append_left _ hrow))
            refine ⟨_, this, ?_, fun _ => rfl⟩
            have hl := (fitAll_len this).1
            simp only [mkVals, V1.leaves, V1.den]
            rw [List.take_append_of_le_length (by omega), List.take_of_length_le (by omega), List.drop_append_of_le_length (by omega), List.drop_of_length_le (by omega)]
            rfl
          · rename_i ep k l
            simp only [Option.map_eq_some_iff] at hd
            obtain ⟨d1, hd1, rfl⟩ := hd
            obtain ⟨cv, h1, h2⟩ := hP rfl ep k l d1 hd1
            refine ⟨[cv], h2, ?_, fun h => by simp [noPtr] at h⟩
            simp only [mkVals, List.cons_append, List.nil_append, List.headD_cons, List.tail_cons, V1.den, h1]
          · rename_i g cs g' caps
            split at hd
            · rename_i hg
              subst hg
              obtain ⟨cv, h1, h2, h3⟩ := capsDE_ok hd (hP rfl)
              refine ⟨cv, h2, ?_, fun h => by simp [noPtr] at h⟩
              simp only [mkVals, V1.den, Leaf.den, h1]
              rw [List.take_append_of_le_length (by omega), List.take_of_length_le (by omega), List.drop_append_of_le_length (by omega), List.drop_of_length_le (by omega)]
              rfl
            · cases hd
          · cases hd
        obtain ⟨cv, e3, e4, e6⟩ := hv
        refine ⟨cv ++ cvs, ?_, by rw [List.map_append]; exact fitAll_append e3 e2, fun hn => ?_⟩
        · rw [e4, ← e1]
          rfl
        · obtain ⟨h1, h2⟩ := noPtr_cons hn
          rw [hal, List.map_append, e6 h1, e5 h2]
      · cases h

/-! ### The operation -/
def KnownOk (P : Program) (Γ : Known) (cfg : Cfg) : Prop := ∀ f c, Γ f = some c → ContractOk P f c ∧ cfg.sig f = some c.sig

theorem kinds_default : ∀ cs : List CT, ∃ rs : List DV, kinds cs rs = true ∧ rs.length = cs.length := by
  intro cs
  induction cs with
  | nil => exact ⟨[], rfl, rfl⟩
  | cons c cs ih =>
    obtain ⟨rs, h, hl⟩ := ih
    cases c with
    | c k => cases k with
      | i k => exact ⟨.i 0 :: rs, by simp [kinds, h, DV.kind], by simp [hl]⟩
      | b => exact ⟨.b false :: rs, by simp [kinds, h, DV.kind], by simp [hl]⟩
    | s e ks => exact ⟨.l [] :: rs, by simp [kinds, h, DV.kind], by simp [hl]⟩

theorem copV_sound {Γ : Known} {cfg : Cfg} {w0 w : World} {st st' : St} {a : Act} {o : Oper} {G : BE} {key : Nat} {f : FuncId} {vs : List V1} {evs : List Ev} {k : Env → Prop} {K : Act → World → Prop} {Q : Exit → Act → World → Prop}
    (hs : Sat w0 env ph st a w) (hrun : G.den env = true → (∀ w args, (callFunc f args).run P w = .ok (.enter f args) w) → (execOp a.eval o).run P w = .ok (.enter f (vs.map (V1.den env ph)).toArray) w) (h : copV cfg st G key o.dst f vs = some (evs, st')) (hk : evsHold Γ evs k env) (hΓ : KnownOk P Γ cfg)
    (hK : ∀ env' ph' a' w', Step w0 env env' ph ph' st st' a' w w' none → k env' → K a' w') :
    (G.den env = true → o.wp P a w K Q) ∧ (G.den env = false → K (a.put o.dst undef) w) := by
  unfold copV at h
  split at h
  · rename_i sg hsg
    split at h
    · rename_i ds hds
      split at h
      · rename_i hcnd
        simp only [Bool.and_eq_true] at hcnd
        obtain ⟨hfree, hGa⟩ := hcnd
        simp only [Option.some.injEq, Prod.mk.injEq] at h
        obtain ⟨rfl, rfl⟩ := h
        obtain ⟨ct, hct, hpre, hcont⟩ := hk
        obtain ⟨⟨hfn, hok⟩, hsig⟩ := hΓ f ct hct
        rw [hsg, Option.some.injEq] at hsig
        subst hsig
        refine ⟨fun hG => ?_, fun hG => ?_⟩
        · obtain ⟨cvs0, e1, e2, _⟩ := v1sDE_ok (env := env) (ph := ph) (R := readsR w) (fun e ks hks => ⟨hks, none, 0, rfl, Nat.zero_le _, fun _ => ⟨rfl, rfl⟩, fun j u hj => by simp [flatRows] at hj⟩) hds (fun row _ r hr hg => by
            have hrow := hs.mem.row r (getRow_mem hr).1 (BE.says_den hg hG)
            exact ⟨hrow.1, hrow.reads⟩) (fun _ e k l d hd => ptrDE_ok hs.mem hG hd)
          have hcall := hok w _ _ ⟨_, e1, e2⟩ (hpre hG)
          unfold Oper.wp
          rw [hrun hG hfn, Oper.upon_enter]
          refine Calls.mono hcall fun e w' he => ?_
          obtain ⟨cvs, rds, rfl, hb, hf, hap, hrel⟩ := he
          exact hK _ _ _ _ (call_sat hs hfree hGa hG hb hf hap) (hcont rds (fitAll_kinds hf) (fun _ => hrel))
        · obtain ⟨rds, hkd, hl⟩ := kinds_default (cts ct.sig.res)
          exact hK _ _ _ _ (nocall_sat hs hfree hGa hG hl) (hcont rds hkd (fun h => by rw [hG] at h; cases h))
      · cases h
    · cases h
  · cases h

theorem cop_sound {Γ : Known} {cfg : Cfg} {w0 w : World} {st st' : St} {a : Act} {o : Oper} {G : BE} {key : Nat} {f : FuncId} {c : Call} {evs : List Ev} {k : Env → Prop} {K : Act → World → Prop} {Q : Exit → Act → World → Prop}
    (hs : Sat w0 env ph st a w) (ho : o.op = .call c) (hc : c.callee = .value (.func f)) (h : cop cfg st G key o.dst f c.args.toList = some (evs, st')) (hk : evsHold Γ evs k env) (hΓ : KnownOk P Γ cfg)
    (hK : ∀ env' ph' a' w', Step w0 env env' ph ph' st st' a' w w' none → k env' → K a' w') :
    (G.den env = true → o.wp P a w K Q) ∧ (G.den env = false → K (a.put o.dst undef) w) := by
  unfold cop at h
  split at h
  · rename_i vs hvs
    refine copV_sound hs (fun hG hfn => ?_) h hk hΓ hK
    have hev := opndLs_den hG hs.tmps hvs
    have : c.args.map a.eval = (vs.map (V1.den env ph)).toArray := by
      apply Array.ext'
      simpa using hev
    simp only [execOp, ho, resolve, hc, Act.eval, Deferred.ofValue, invoke, Sem.run_bind, Sem.run_pure, Result.andThen_ok, this]
    simp [hfn]
  · cases h

theorem copF_sound {Γ : Known} {cfg : Cfg} {w0 w : World} {st st' : St} {a : Act} {o : Oper} {G : BE} {key : Nat} {t : Tmp} {c : Call} {evs : List Ev} {k : Env → Prop} {K : Act → World → Prop} {Q : Exit → Act → World → Prop}
    (hs : Sat w0 env ph st a w) (ho : o.op = .call c) (hc : c.callee = .value (.tmp t)) (h : copF cfg st G key o.dst (.tmp t) c.args.toList = some (evs, st')) (hk : evsHold Γ evs k env) (hΓ : KnownOk P Γ cfg)
    (hK : ∀ env' ph' a' w', Step w0 env env' ph ph' st st' a' w w' none → k env' → K a' w') :
    (G.den env = true → o.wp P a w K Q) ∧ (G.den env = false → K (a.put o.dst undef) w) := by
  unfold copF at h
  split at h
  · rename_i g caps vs hx hvs
    refine copV_sound hs (fun hG hfn => ?_) h hk hΓ hK
    have hev := opndLs_den hG hs.tmps hvs
    have hf := opndL_den hx hG hs.tmps
    have : c.args.map a.eval = (vs.map (V1.den env ph)).toArray := by
      apply Array.ext'
      simpa using hev
    have e : ((vs ++ caps.map fun c => V1.one (capLeaf c)).map (V1.den env ph)).toArray = (vs.map (V1.den env ph)).toArray ++ (caps.map (capDen ph)).toArray := by
      apply Array.ext'
      simp [V1.den, capLeaf_den, Function.comp_def]
    simp only [execOp, ho, resolve, hc, hf, Leaf.den, Deferred.ofValue, invoke, Sem.run_bind, Sem.run_pure, Result.andThen_ok, this, e]
    simp [hfn]
  · cases h

end Go.Sx
