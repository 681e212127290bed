/- The symbolic executor: from a law's contract to a row's step. -/
import Derived.Test.YtjcomklheilfjaaSxH1
import Derived.Carry
import Derived.ProofKit
set_option linter.unusedVariables false
set_option linter.unusedSimpArgs false
namespace Go.Sx
open Go.RowKit Go.WideShapes Go.ChangeShapes

variable {H : Type} {enc : TypeId × Value → H} {P : Program}

def vtOk (P : Program) (t : TypeId) : VT → Bool
  | .one c => decide (leafC P t = some c)
  | .agg cs => (match P.underlying t with
    | some (.struct _) => true
    | some (.array _ _) => true
    | _ => false) && decide (flatG P (leafC P) 16 t = some cs) && decide (P.cellsOf t = cs.length) && decide (leafC P t = none)
  | .ptr _ _ => false
  | .fn _ _ => false
def vtsOk (P : Program) : List TypeId → List VT → Bool
  | [], [] => true
  | t :: ts, v :: vs => vtOk P t v && vtsOk P ts vs
  | _, _ => false

def dvsIn : List CT → List DV → Prop
  | [], [] => True
  | c :: cs, d :: ds => dvIn c d ∧ dvsIn cs ds
  | _, _ => False

theorem cells3_in {w : World} : ∀ {cs : List CT} {vs : List Value} {ds : List DV}, cells3 (argR w) cs vs ds → dvsIn cs ds := by
  intro cs
  induction cs with
  | nil => intro vs ds h; cases vs <;> cases ds <;> simp_all [cells3, dvsIn]
  | cons c cs ih =>
    intro vs ds h
    cases vs with
    | nil => simp [cells3] at h
    | cons v vs => cases ds with
      | nil => simp [cells3] at h
      | cons d ds => exact ⟨h.1.2, ih h.2⟩

theorem open_one {b0 : Nat} {B : DataW H → Nat} (hB : ∀ es sp, List.length es ≤ B (.slice es sp)) (hB2 : ∀ d parts, d ∈ parts → B d ≤ B (.agg parts)) {W : World} {t : TypeId} {vt : VT} {v : Value} {d : DataW H} {p : List MemPlace} (hv : vtOk P t vt = true)
    (hok : Value.okWide P W .any b0 t v) (h : DataW.Trod enc P W 0 (fun _ => true) true t v d p) :
    ∃ cvs dvs, cells3 (argR W) vt.cts cvs dvs ∧ (∀ ts rest, mkVals (vt :: ts) (cvs ++ rest) = v :: mkVals ts rest) ∧ ∀ xs, DV.l xs ∈ dvs → xs.length ≤ B d := by
  obtain ⟨fuel, hf⟩ := h
  cases vt with
  | ptr e k => simp [vtOk] at hv
  | fn g cs => simp [vtOk] at hv
  | one c =>
    simp only [vtOk, decide_eq_true_eq] at hv
    obtain ⟨v', b, hcs, hr, hq⟩ := leafC_open (B := B) hB t c fuel _ _ hv hf
    have hvv : v.cells.toList = [v] := by
      unfold leafC at hv
      split at hv
      · rename_i k hu; obtain ⟨n, rfl⟩ := okWide_int hu hok; rfl
      · rename_i hu; obtain ⟨n, rfl⟩ := okWide_bool hu hok; rfl
      · rename_i e hu; obtain ⟨a, len, cap, rfl⟩ := okWide_slice hu hok; rfl
      · cases hv
    rw [hvv] at hcs
    simp only [List.cons.injEq, and_true] at hcs
    subst hcs
    refine ⟨[v], [b], ⟨hr, trivial⟩, fun ts rest => rfl, fun xs hx => ?_⟩
    simp only [List.mem_singleton] at hx
    exact hq xs hx.symm
  | agg cs =>
    simp only [vtOk, Bool.and_eq_true, decide_eq_true_eq] at hv
    obtain ⟨⟨⟨hv1, hv2⟩, hv3⟩, hv4⟩ := hv
    obtain ⟨c, rfl⟩ : ∃ c, v = .agg c := by
      unfold Value.okWide at hok
      split at hv1
      · rename_i hu; rw [hu] at hok; obtain ⟨c, h, _⟩ := hok; exact ⟨c, h⟩
      · rename_i hu; rw [hu] at hok; obtain ⟨c, h, _⟩ := hok; exact ⟨c, h⟩
      · cases hv1
    obtain ⟨bs, h1, h2⟩ := trod_flatG (R := argR W) (Q := fun b (d : DataW H) => ∀ xs, b = DV.l xs → xs.length ≤ B d) (fun b d parts hm hq xs hx => Nat.le_trans (hq xs hx) (hB2 d parts hm)) (leafC_open hB) hv2 (fun _ => hv3) hf
    have hl := (cells3_len h1).1
    refine ⟨_, bs, h1, fun ts rest => ?_, fun xs hx => h2 _ hx xs rfl⟩
    simp only [mkVals, VT.cts] at hl ⊢
    rw [List.take_append_of_le_length (by omega), List.take_of_length_le (by omega), List.drop_append_of_le_length (by omega), List.drop_of_length_le (by omega)]
    rfl

theorem open_args {b0 : Nat} {B : DataW H → Nat} (hB : ∀ es sp, List.length es ≤ B (.slice es sp)) (hB2 : ∀ d parts, d ∈ parts → B d ≤ B (.agg parts)) {W : World} : ∀ {ts : List TypeId} {vts : List VT} {vs : List Value} {ds : List (DataW H)} {ps : List MemPlace}, vtsOk P ts vts = true →
    (∀ (j : Nat) (t : TypeId) (v : Value), ts[j]? = some t → vs[j]? = some v → Value.okWide P W .any b0 t v) → DataW.TrodAll enc P W 0 (fun _ => true) true ts vs ds ps →
    ∃ cvs dvs, cells3 (argR W) (cts vts) cvs dvs ∧ vs = mkVals vts cvs ∧ ∀ xs, DV.l xs ∈ dvs → ∃ d ∈ ds, xs.length ≤ B d := by
  intro ts
  induction ts with
  | nil =>
    intro vts vs ds ps hv hok h
    cases vts with
    | nil => obtain ⟨rfl, rfl, rfl⟩ := trodAll_nil h; exact ⟨[], [], trivial, rfl, fun xs hx => by simp at hx⟩
    | cons _ _ => simp [vtsOk] at hv
  | cons t ts ih =>
    intro vts vs ds ps hv hok h
    cases vts with
    | nil => simp [vtsOk] at hv
    | cons vt vts =>
      simp only [vtsOk, Bool.and_eq_true] at hv
      obtain ⟨v, vs', d, ds', p, q, rfl, rfl, rfl, h1, h2⟩ := trodAll_cons h
      obtain ⟨c1, d1, g1, g2, g3⟩ := open_one hB hB2 hv.1 (hok 0 t v rfl rfl) h1
      obtain ⟨c2, d2, k1, k2, k3⟩ := ih hv.2 (fun j t v a b => hok (j + 1) t v (by simpa using a) (by simpa using b)) h2
      have e : cts (vt :: vts) = vt.cts ++ cts vts := by simp [cts]
      refine ⟨c1 ++ c2, d1 ++ d2, by rw [e]; exact cells3_append g1 k1, by rw [g2, k2], fun xs hx => ?_⟩
      rcases List.mem_append.1 hx with hx | hx
      · exact ⟨d, List.mem_cons_self .., g3 xs hx⟩
      · obtain ⟨d', hd', hl⟩ := k3 xs hx
        exact ⟨d', List.mem_cons_of_mem _ hd', hl⟩

/-- The arguments read as they did. -/
theorem args_stay {W W' : World} (hl : laidOutB P = true) (hb : Below W.heap.size W W') : ∀ {ts : List TypeId} {vs : List Value} {ds : List (DataW H)} {ps : List MemPlace}, (ts.all fun t => P.readableRec t && decide (t < P.types.size)) = true →
    DataW.TrodAll enc P W 0 (fun _ => true) true ts vs ds ps → (∀ x ∈ ps, x.block < W.heap.size) → DataW.TrodAll enc P W' 0 (fun b => decide (b < W.heap.size)) true ts vs ds ps := by
  intro ts
  induction ts with
  | nil => intro vs ds ps _ h _; obtain ⟨rfl, rfl, rfl⟩ := trodAll_nil h; exact trodAll_mk0
  | cons t ts ih =>
    intro vs ds ps hr h hlt
    simp only [List.all_cons, Bool.and_eq_true, decide_eq_true_eq] at hr
    obtain ⟨v, vs', d, ds', p, q, rfl, rfl, rfl, h1, h2⟩ := trodAll_cons h
    exact ⟨p, q, Below.trod hl hr.1.1 hr.1.2 h1 hb (fun x hx => hlt x (List.mem_append_left _ hx)), ih hr.2 h2 (fun x hx => hlt x (List.mem_append_right _ hx)), rfl⟩

/-- **A law's row**: its contract says that it returns true. -/
theorem law_step {b0 : Nat} {B : DataW H → Nat} (hB : ∀ es sp, List.length es ≤ B (.slice es sp)) (hB2 : ∀ d parts, d ∈ parts → B d ≤ B (.agg parts)) {f : FuncId} {fn : Func} {s : ChangeSpec} {sg : Sig} {pre : List DV → Prop} {tb : TypeId} {W : World} {args : Array Value} {ds gs : List (DataW H)} {before : List MemPlace}
    (hOk : ContractOk P f ⟨sg, pre, fun _ rs => rs = [.b true]⟩) (hres : sg.res = [.one (.c .b)]) (hvt : vtsOk P fn.params.toList sg.args = true) (hl : laidOutB P = true) (hr : (fn.params.toList.all fun t => P.readableRec t && decide (t < P.types.size)) = true)
    (hrt : fn.resultTypes = #[tb]) (htb : P.underlying tb = some .bool) (hvars : s.vars = [])
    (hs : ∀ ds : List (DataW H), ds.length = fn.params.toList.length → s.fn H ds = { results := [.lit (.bool true)], args := ds })
    (hval : ∀ (j : Nat) t v, fn.params[j]? = some t → args[j]? = some v → Value.okWide P W .any b0 t v) (hW : DataW.Whole enc P fn.params.toList s.vars false W args.toList ds gs before)
    (hpre : ∀ dvs, dvsIn (cts sg.args) dvs → (∀ xs, DV.l xs ∈ dvs → ∃ d ∈ ds, xs.length ≤ B d) → pre dvs) :
    Calls P f args W fun e W' => ∃ v, e = .returned v ∧ s.post enc P fn false true false false W args v W' := by
  have hW' := hW
  obtain ⟨p, q, hA, hV, rfl, hfz, hnd⟩ := hW
  rw [hvars] at hV
  obtain ⟨rfl, rfl⟩ := trodVars_none hV
  obtain ⟨cvs, dvs, h1, h2, h3⟩ := open_args hB hB2 hvt (fun j t v a b => hval j t v (by simpa using a) (by simpa using b)) hA
  have hcall := hOk.2 W args.toList dvs ⟨cvs, h2, cells3_fit h1⟩ (hpre dvs (cells3_in h1) h3)
  rw [Array.toArray_toList] at hcall
  refine Calls.mono hcall fun e W' he => ?_
  obtain ⟨rv, rds, rfl, hb, hf, hap, hrel⟩ := he
  have hrel : rds = [.b true] := hrel
  subst hrel
  simp only at hf
  rw [hres] at hf
  have hlt : ∀ x ∈ p, x.block < W.heap.size := fun x hx => by simpa using hW'.lt x (by simpa using hx)
  have hrv : rv = [.bool true] := by
    match rv, hf with
    | [v], hf =>
      have : v = .bool true := hf.1
      rw [this]
  subst hrv
  refine ⟨_, rfl, ds, [], p, [], p, [], by simpa using hW', ?_, ?_, ?_, Below.frame hb _, fun h => by cases h⟩
  · have hlen : (ds ++ []).length = fn.params.toList.length := by
      have : ∀ {ts : List TypeId} {vs : List Value} {ds : List (DataW H)} {ps : List MemPlace}, DataW.TrodAll enc P W 0 (fun _ => true) true ts vs ds ps → ds.length = ts.length := by
        intro ts
        induction ts with
        | nil => intro vs ds ps h; obtain ⟨_, rfl, _⟩ := trodAll_nil h; rfl
        | cons t ts ih => intro vs ds ps h; obtain ⟨_, _, _, _, _, _, _, rfl, _, _, h2⟩ := trodAll_cons h; simp [ih h2]
      simpa using this hA
    rw [hs _ hlen, hrt]
    rw [hres]
    show DataW.TrodAll enc P W' W.heap.size (fun _ => false) false [tb] [.bool true] [.lit (.bool true)] []
    exact trodAll_mk1 ⟨1, by simp [DataW.trod, Value.cells, htb]⟩
  · have hlen : (ds ++ []).length = fn.params.toList.length := by
      have : ∀ {ts : List TypeId} {vs : List Value} {ds : List (DataW H)} {ps : List MemPlace}, DataW.TrodAll enc P W 0 (fun _ => true) true ts vs ds ps → ds.length = ts.length := by
        intro ts
        induction ts with
        | nil => intro vs ds ps h; obtain ⟨_, rfl, _⟩ := trodAll_nil h; rfl
        | cons t ts ih => intro vs ds ps h; obtain ⟨_, _, _, _, _, _, _, rfl, _, _, h2⟩ := trodAll_cons h; simp [ih h2]
      simpa using this hA
    rw [hs _ hlen, List.append_nil]
    exact args_stay hl hb hr hA hlt
  · have hlen : (ds ++ []).length = fn.params.toList.length := by
      have : ∀ {ts : List TypeId} {vs : List Value} {ds : List (DataW H)} {ps : List MemPlace}, DataW.TrodAll enc P W 0 (fun _ => true) true ts vs ds ps → ds.length = ts.length := by
        intro ts
        induction ts with
        | nil => intro vs ds ps h; obtain ⟨_, rfl, _⟩ := trodAll_nil h; rfl
        | cons t ts ih => intro vs ds ps h; obtain ⟨_, _, _, _, _, _, _, rfl, _, _, h2⟩ := trodAll_cons h; simp [ih h2]
      simpa using this hA
    rw [hs _ hlen, hvars]
    rfl

end Go.Sx
