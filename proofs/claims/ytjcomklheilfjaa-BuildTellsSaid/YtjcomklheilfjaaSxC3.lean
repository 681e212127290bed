/- The symbolic executor: equality of structs and arrays of numbers and bools. -/
import Derived.Test.YtjcomklheilfjaaSxC2
import Derived.ChangeKeysEq
set_option linter.unusedVariables false
set_option linter.unusedSimpArgs false
namespace Go.Sx
open Go.RowKit

variable {env : Env} {ph : Ph} {P : Program} {w : World}

def veq : Value → Value → Bool
  | .int _ a, .int _ b => decide (a = b)
  | .bool a, .bool b => a == b
  | _, _ => false
def veqs : List Value → List Value → Bool
  | [], [] => true
  | x :: xs, y :: ys => veq x y && veqs xs ys
  | _, _ => false
def vfit : CK → Value → Bool
  | .i k, .int k' _ => decide (k = k')
  | .b, .bool _ => true
  | _, _ => false
def vfits : List CK → List Value → Bool
  | [], [] => true
  | k :: ks, x :: xs => vfit k x && vfits ks xs
  | _, _ => false

theorem vfits_length : ∀ {ks : List CK} {xs : List Value}, vfits ks xs = true → xs.length = ks.length := by
  intro ks
  induction ks with
  | nil => intro xs h; cases xs with
    | nil => rfl
    | cons x xs => simp [vfits] at h
  | cons k ks ih => intro xs h; cases xs with
    | nil => simp [vfits] at h
    | cons x xs => simp only [vfits, Bool.and_eq_true] at h; simp [ih h.2]

theorem vfits_append : ∀ {ks ks' : List CK} {xs : List Value}, vfits (ks ++ ks') xs = true → vfits ks (xs.take ks.length) = true ∧ vfits ks' (xs.drop ks.length) = true := by
  intro ks
  induction ks with
  | nil => intro ks' xs h; exact ⟨rfl, by simpa using h⟩
  | cons k ks ih => intro ks' xs h; cases xs with
    | nil => simp [vfits] at h
    | cons x xs =>
      simp only [List.cons_append, vfits, Bool.and_eq_true] at h
      obtain ⟨h1, h2⟩ := ih h.2
      exact ⟨by simp [vfits, h.1, h1], by simpa using h2⟩

theorem veqs_append : ∀ {xs ys xs' ys' : List Value}, xs.length = ys.length → veqs (xs ++ xs') (ys ++ ys') = (veqs xs ys && veqs xs' ys') := by
  intro xs
  induction xs with
  | nil => intro ys xs' ys' h; cases ys with
    | nil => simp [veqs]
    | cons y ys => simp at h
  | cons x xs ih => intro ys xs' ys' h; cases ys with
    | nil => simp at h
    | cons y ys => simp only [List.cons_append, veqs, ih (by simpa using h), Bool.and_assoc]

/-- A value of type t out of its cells. -/
def pv (P : Program) (t : TypeId) (cs : List Value) : Value := if isAggB P t then .agg cs.toArray else cs.headD undef

theorem run_sizeOf' {t : TypeId} (h : 0 < P.cellsOf t) : (sizeOf t).run P w = .ok (P.cellsOf t) w := by
  unfold Program.cellsOf at *
  cases hi : P.info? t with
  | none => simp [hi] at h
  | some i => simp [sizeOf, typeInfo, hi]

theorem run_isAgg {t : TypeId} (h : (P.underlying t).isSome = true) : (isAgg t).run P w = .ok (isAggB P t) w := by
  obtain ⟨d, hd⟩ := Option.isSome_iff_exists.1 h
  simp only [isAgg, isAggB, Sem.run_bind, run_underlying hd, Result.andThen_ok, hd]
  cases d <;> rfl

theorem run_part' {t : TypeId} (h : (P.underlying t).isSome = true) (hs : 0 < P.cellsOf t) {cs : Array Value} {off : Nat} (hl : off + P.cellsOf t ≤ cs.size) (h1 : isAggB P t = false → P.cellsOf t = 1) :
    (part t cs off).run P w = .ok (pv P t ((cs.toList.drop off).take (P.cellsOf t))) w := by
  simp only [part, Sem.run_bind, run_isAgg h, Result.andThen_ok, pv]
  cases hb : isAggB P t with
  | true =>
    simp only [if_true, Sem.run_bind, run_sizeOf' hs, Result.andThen_ok, Sem.run_pure]
    congr 2
    apply Array.ext'
    simp [Array.toList_extract, List.extract_eq_take_drop]
  | false =>
    have h1' := h1 hb
    rw [h1'] at hl ⊢
    have : cs[off]? = some cs[off] := by simp [Array.getElem?_eq_getElem (show off < cs.size by omega)]
    simp only [Bool.false_eq_true, if_false, this, Sem.run_pure]
    congr 1
    rw [List.drop_eq_getElem_cons (by simp; omega)]
    simp

theorem flat_some {n : Nat} {t : TypeId} {ks : List CK} (h : flat P n t = some ks) : (P.underlying t).isSome = true := by
  cases n with
  | zero => simp [flat] at h
  | succ n =>
    unfold flat at h
    cases hu : P.underlying t with
    | none => simp [hu] at h
    | some d => rfl

theorem flat_one {n : Nat} {t : TypeId} {ks : List CK} (h : flat P n t = some ks) (ha : isAggB P t = false) : ks.length = 1 := by
  cases n with
  | zero => simp [flat] at h
  | succ n =>
    unfold flat at h
    unfold isAggB at ha
    split at h <;> simp_all
    · rw [← h]; rfl
    · rw [← h]; rfl

theorem run_equalIn_flat : ∀ (n : Nat) (t : TypeId) (ks : List CK), flat P n t = some ks → eqQ.eqHeld P n t = false → ∀ (d : Nat), n ≤ d → ∀ xs ys : List Value,
    vfits ks xs = true → vfits ks ys = true → ∀ w, (Op.equalIn d t (pv P t xs) (pv P t ys)).run P w = .ok (veqs xs ys) w := by
  intro n
  induction n with
  | zero => intro t ks h; simp [flat] at h
  | succ n ih =>
    intro t ks h hh d hd xs ys hx hy w
    obtain ⟨d, rfl⟩ : ∃ d', d = d' + 1 := ⟨d - 1, by omega⟩
    unfold flat at h
    unfold eqQ.eqHeld at hh
    split at h
    · rename_i k hu
      simp only [Option.some.injEq] at h; subst h
      have hlx := vfits_length hx
      have hly := vfits_length hy
      match xs, ys, hlx, hly with
      | [x], [y], _, _ =>
        simp only [vfits, Bool.and_true] at hx hy
        cases x <;> simp [vfit] at hx
        cases y <;> simp [vfit] at hy
        simp only [pv, isAggB, hu, Bool.false_eq_true, if_false, List.headD_cons]
        subst hx; subst hy
        rw [run_equalIn_int w d t _ _ _ _ hu]
        simp [veqs, veq]
        rw [Bool.eq_iff_iff]; simp
    · rename_i hu
      simp only [Option.some.injEq] at h; subst h
      have hlx := vfits_length hx
      have hly := vfits_length hy
      match xs, ys, hlx, hly with
      | [x], [y], _, _ =>
        simp only [vfits, Bool.and_true] at hx hy
        cases x <;> simp [vfit] at hx
        cases y <;> simp [vfit] at hy
        simp only [pv, isAggB, hu, Bool.false_eq_true, if_false, List.headD_cons]
        rw [run_equalIn_bool w d t _ _ hu]
        simp [veqs, veq]
    · rename_i fs hu
      simp only [hu, Bool.or_eq_false_iff] at hh
      obtain ⟨hst, hany⟩ := hh
      simp only [pv, isAggB, hu, if_true]
      have hf : P.fieldsOf t = fs := by simp [Program.fieldsOf, hu]
      rw [run_equalIn_struct w d t _ _ (by rw [hf]; exact hu) hst, hf]
      -- the fields, one by one
      have key : ∀ (l : List Field) (off : Nat) (ks : List CK), flatFs P (flat P n) off l = some ks → (l.any fun f => f.name == "_" || eqQ.eqHeld P n f.type) = false →
          ∀ xs ys : List Value, xs.length = off + ks.length → ys.length = off + ks.length → vfits ks (xs.drop off) = true → vfits ks (ys.drop off) = true →
          ∀ w, (Op.eqFields d xs.toArray ys.toArray l).run P w = .ok (veqs (xs.drop off) (ys.drop off)) w := by
        intro l
        induction l with
        | nil =>
          intro off ks h _ xs ys hx hy _ _ w
          simp only [flatFs, Option.some.injEq] at h; subst h
          simp at hx hy
          simp [Op.eqFields, List.drop_eq_nil_of_le, hx, hy, veqs]
        | cons f l ihl =>
          intro off ks h hany xs ys hxl hyl hx hy w
          simp only [flatFs] at h
          split at h
          · rename_i hoff
            split at h
            · rename_i m hm
              split at h
              · rename_i hc
                split at h
                · rename_i r hr
                  simp only [Option.some.injEq] at h; subst h
                  simp only [List.any_cons, Bool.or_eq_false_iff] at hany
                  obtain ⟨⟨hname, hheld⟩, hrest⟩ := hany
                  have hne : f.name ≠ "_" := by simpa using hname
                  obtain ⟨hx1, hx2⟩ := vfits_append hx
                  obtain ⟨hy1, hy2⟩ := vfits_append hy
                  simp only [List.length_append] at hxl hyl
                  have hu' := flat_some hm
                  have px := run_part' (P := P) (w := w) hu' (by omega) (cs := xs.toArray) (off := f.offset) (by simp; omega) (fun ha => by rw [hc.1]; exact flat_one hm ha)
                  have py := run_part' (P := P) (w := w) hu' (by omega) (cs := ys.toArray) (off := f.offset) (by simp; omega) (fun ha => by rw [hc.1]; exact flat_one hm ha)
                  simp only [List.toList_toArray, hc.1, hoff] at px py
                  simp only [Op.eqFields, hne, ne_eq, not_false_eq_true, if_true, Sem.run_bind, hoff, px, py, Result.andThen_ok]
                  rw [ih f.type m hm hheld d (by omega) _ _ hx1 hy1 w]
                  simp only [Result.andThen_ok]
                  have e : veqs (xs.drop off) (ys.drop off) = (veqs ((xs.drop off).take m.length) ((ys.drop off).take m.length) && veqs ((xs.drop off).drop m.length) ((ys.drop off).drop m.length)) := by
                    rw [← veqs_append (by simp; omega), List.take_append_drop, List.take_append_drop]
                  rw [e]
                  cases veqs ((xs.drop off).take m.length) ((ys.drop off).take m.length)
                  · simp
                  · have := ihl (off + m.length) r hr hrest xs ys (by omega) (by omega) (by simpa using hx2) (by simpa using hy2) w
                    simp only [Bool.not_true, Bool.false_eq_true, if_false, Bool.true_and, List.drop_drop]
                    exact this
                · cases h
              · cases h
            · cases h
          · cases h
      have hlx := vfits_length hx
      have hly := vfits_length hy
      exact key fs.toList 0 ks h hany xs ys (by omega) (by omega) (by simpa using hx) (by simpa using hy) w
    · rename_i len e hu
      split at h
      · rename_i m hm
        split at h
        · rename_i hc
          simp only [Option.some.injEq] at h; subst h
          simp only [hu] at hh
          simp only [pv, isAggB, hu, if_true]
          have hi : ∃ i, P.info? e = some i := by
            have := hc.2
            rw [← hc.1] at this
            unfold Program.cellsOf at this
            cases hi : P.info? e with
            | none => simp [hi] at this
            | some i => exact ⟨i, rfl⟩
          obtain ⟨i, hi⟩ := hi
          rw [run_equalIn_array w d _ _ hu hi]
          have hu' := flat_some hm
          have key : ∀ (c : Nat) (s : Nat) (xs ys : List Value), xs.length = (s + c) * m.length → ys.length = (s + c) * m.length →
              vfits (List.replicate c m).flatten (xs.drop (s * m.length)) = true → vfits (List.replicate c m).flatten (ys.drop (s * m.length)) = true →
              ∀ w, (Op.eqItems d e (P.cellsOf e) xs.toArray ys.toArray (List.range' s c)).run P w = .ok (veqs (xs.drop (s * m.length)) (ys.drop (s * m.length))) w := by
            intro c
            induction c with
            | zero =>
              intro s xs ys hx hy _ _ w
              rw [Nat.add_zero] at hx hy
              have e1 : xs.drop (s * m.length) = [] := List.drop_eq_nil_of_le (by omega)
              have e2 : ys.drop (s * m.length) = [] := List.drop_eq_nil_of_le (by omega)
              simp [Op.eqItems, e1, e2, veqs]
            | succ c ihc =>
              intro s xs ys hxl hyl hx hy w
              simp only [List.replicate_succ, List.flatten_cons] at hx hy
              obtain ⟨hx1, hx2⟩ := vfits_append hx
              obtain ⟨hy1, hy2⟩ := vfits_append hy
              have hs1 : (s + (c + 1)) * m.length = s * m.length + m.length + c * m.length := by rw [Nat.add_mul, Nat.add_mul, Nat.one_mul]; omega
              have px := run_part' (P := P) (w := w) hu' (by omega) (cs := xs.toArray) (off := s * m.length) (by simp; omega) (fun ha => by rw [hc.1]; exact flat_one hm ha)
              have py := run_part' (P := P) (w := w) hu' (by omega) (cs := ys.toArray) (off := s * m.length) (by simp; omega) (fun ha => by rw [hc.1]; exact flat_one hm ha)
              simp only [List.toList_toArray, hc.1] at px py
              simp only [List.range'_succ, Op.eqItems, Sem.run_bind, hc.1, px, py, Result.andThen_ok]
              rw [ih e m hm hh d (by omega) _ _ hx1 hy1 w]
              simp only [Result.andThen_ok]
              have e : veqs (xs.drop (s * m.length)) (ys.drop (s * m.length)) = (veqs ((xs.drop (s * m.length)).take m.length) ((ys.drop (s * m.length)).take m.length) && veqs ((xs.drop (s * m.length)).drop m.length) ((ys.drop (s * m.length)).drop m.length)) := by
                rw [← veqs_append (by simp; omega), List.take_append_drop, List.take_append_drop]
              rw [e]
              have e3 : (s + 1) * m.length = s * m.length + m.length := by rw [Nat.add_mul, Nat.one_mul]
              have hl2 : (s + 1 + c) * m.length = (s + (c + 1)) * m.length := by congr 1; omega
              cases veqs ((xs.drop (s * m.length)).take m.length) ((ys.drop (s * m.length)).take m.length)
              · simp
              · have := ihc (s + 1) xs ys (by omega) (by omega) (by rw [e3]; simpa using hx2) (by rw [e3]; simpa using hy2) w
                simp only [Bool.not_true, Bool.false_eq_true, if_false, Bool.true_and, List.drop_drop]
                rw [hc.1, e3] at this
                exact this
          have hlx := vfits_length hx
          have hly := vfits_length hy
          have hfl : (List.replicate len m).flatten.length = len * m.length := by simp
          rw [List.range_eq_range']
          have := key len 0 xs ys (by rw [Nat.zero_add]; omega) (by rw [Nat.zero_add]; omega) (by simpa using hx) (by simpa using hy) w
          simpa using this
        · cases h
      · cases h
    · cases h

theorem fits_vfit {k : CK} {l : Leaf} (h : fits k l = true) : vfit k (l.den env ph) = true := by
  cases k <;> cases l <;> simp [fits] at h <;> simp [vfit, Leaf.den, h]
theorem fitsAll_vfits : ∀ {ks : List CK} {ls : List Leaf}, fitsAll ks ls = true → vfits ks (ls.map (Leaf.den env ph)) = true := by
  intro ks
  induction ks with
  | nil => intro ls h; cases ls with
    | nil => rfl
    | cons l ls => simp [fitsAll] at h
  | cons k ks ih => intro ls h; cases ls with
    | nil => simp [fitsAll] at h
    | cons l ls => simp only [fitsAll, Bool.and_eq_true] at h; simp [vfits, fits_vfit h.1, ih h.2]

theorem leafEq_den {x y : Leaf} {p : BE} (h : leafEq x y = some p) : p.den env = veq (x.den env ph) (y.den env ph) := by
  unfold leafEq at h
  split at h
  · split at h
    · simp only [Option.some.injEq] at h; subst h; simp [BE.den_mk, BE.den, veq, Leaf.den]
    · cases h
  · simp only [Option.some.injEq] at h; subst h; simp [BE.den_mk, BE.den, veq, Leaf.den]
  · cases h

theorem cellsEq_den : ∀ {xs ys : List Leaf} {p : BE}, cellsEq xs ys = some p → p.den env = veqs (xs.map (Leaf.den env ph)) (ys.map (Leaf.den env ph)) := by
  intro xs
  induction xs with
  | nil => intro ys p h; cases ys with
    | nil => simp only [cellsEq, Option.some.injEq] at h; subst h; rfl
    | cons y ys => simp [cellsEq] at h
  | cons x xs ih => intro ys p h; cases ys with
    | nil => simp [cellsEq] at h
    | cons y ys =>
      simp only [cellsEq] at h
      split at h
      · rename_i p1 p2 h1 h2
        simp only [Option.some.injEq] at h; subst h
        simp [BE.den_mk, BE.den, veqs, leafEq_den (ph := ph) h1, ih h2]
      · cases h

theorem eqQ_run {t : TypeId} {x y : V1} {p : BE} (h : eqQ P t x y = some p) (X Y : Operand) :
    (do eqGuard .eql t X Y (x.den env ph) (y.den env ph); binOp .eql t (x.den env ph) (y.den env ph) : Sem Value).run P w = .ok (.bool (p.den env)) w ∧
    (do eqGuard .neq t X Y (x.den env ph) (y.den env ph); binOp .neq t (x.den env ph) (y.den env ph) : Sem Value).run P w = .ok (.bool (!(p.den env))) w := by
  unfold eqQ at h
  split at h
  · rename_i a b
    split at h
    · rename_i hu
      simp only [Option.some.injEq] at h; subst h
      constructor
      · show Sem.run P (do eqGuard .eql t X Y (.bool _) (.bool _); binOp .eql t (.bool _) (.bool _)) w = _
        rw [eqGuard_at_bool]
        simp only [Sem.run_bind, Sem.run_pure, Result.andThen_ok]
        rw [run_eql_bool w t _ _ hu]
        simp [BE.den_mk, BE.den]
      · show Sem.run P (do eqGuard .neq t X Y (.bool _) (.bool _); binOp .neq t (.bool _) (.bool _)) w = _
        rw [eqGuard_at_bool]
        simp only [Sem.run_bind, Sem.run_pure, Result.andThen_ok]
        rw [run_neq_bool w t _ _ hu]
        simp [BE.den_mk, BE.den]
    · cases h
  · rename_i xs ys
    split at h
    · rename_i ks hk
      split at h
      · rename_i hc
        simp only [Bool.and_eq_true, Bool.not_eq_true'] at hc
        obtain ⟨⟨⟨⟨hx, hy⟩, hagg⟩, hg⟩, hheld⟩ := hc
        have he := run_equalIn_flat (P := P) 16 t ks hk hheld 10000 (by omega) _ _ (fitsAll_vfits (env := env) (ph := ph) hx) (fitsAll_vfits (env := env) (ph := ph) hy) w
        simp only [pv, hagg, if_true] at he
        have hd := cellsEq_den (env := env) (ph := ph) h
        constructor
        · simp only [V1.den, Sem.run_bind, run_eqGuard_agg w _ t X Y _ _ hg, Result.andThen_ok, run_eql_struct, he, hd]
        · simp only [V1.den, Sem.run_bind, run_eqGuard_agg w _ t X Y _ _ hg, Result.andThen_ok, run_neq_struct, he, hd]
      · cases h
    · cases h
  · cases h

end Go.Sx
