/- The symbolic executor: a statement's arguments, opened. -/
import Derived.Test.YtjcomklheilfjaaSxG2
import Derived.Deep.Slices
import Derived.OpenShut
import Derived.WideShapes
set_option linter.unusedVariables false
set_option linter.unusedSimpArgs false
namespace Go.Sx
open Go.RowKit Go.WideShapes Go.ChangeShapes

variable {H : Type} {enc : TypeId × Value → H} {P : Program} {w : World} {base : Nat} {spare : Nat → Bool} {held : Bool}

def flatGFs {α : Type} (P : Program) (g : TypeId → Option (List α)) : Nat → List Field → Option (List α)
  | _, [] => some []
  | off, f :: fs => if f.offset = off then (match g f.type with
    | some m => if P.cellsOf f.type = m.length then (match flatGFs P g (off + m.length) fs with
      | some r => some (m ++ r)
      | none => none) else none
    | none => none) else none
def flatG {α : Type} (P : Program) (leaf : TypeId → Option α) : Nat → TypeId → Option (List α)
  | 0, _ => none
  | n + 1, t => match leaf t with
    | some a => some [a]
    | none => match P.underlying t with
      | some (.struct fs) => flatGFs P (flatG P leaf n) 0 fs.toList
      | some (.array len e) => match flatG P leaf n e with
        | some m => if P.cellsOf e = m.length then some (List.replicate len m).flatten else none
        | none => none
      | _ => none

def cells3 {α β : Type} (R : α → Value → β → Prop) : List α → List Value → List β → Prop
  | [], [], [] => True
  | c :: cs, v :: vs, d :: ds => R c v d ∧ cells3 R cs vs ds
  | _, _, _ => False

theorem cells3_append {α β : Type} {R : α → Value → β → Prop} : ∀ {cs cs' : List α} {vs vs' : List Value} {ds ds' : List β}, cells3 R cs vs ds → cells3 R cs' vs' ds' → cells3 R (cs ++ cs') (vs ++ vs') (ds ++ ds') := by
  intro cs
  induction cs with
  | nil => intro cs' vs vs' ds ds' h h'; cases vs <;> cases ds <;> simp_all [cells3]
  | cons c cs ih =>
    intro cs' vs vs' ds ds' h h'
    cases vs with
    | nil => simp [cells3] at h
    | cons v vs => cases ds with
      | nil => simp [cells3] at h
      | cons d ds => exact ⟨h.1, ih h.2 h'⟩

theorem cells3_len {α β : Type} {R : α → Value → β → Prop} : ∀ {cs : List α} {vs : List Value} {ds : List β}, cells3 R cs vs ds → vs.length = cs.length ∧ ds.length = cs.length := by
  intro cs
  induction cs with
  | nil => intro vs ds h; cases vs <;> cases ds <;> simp_all [cells3]
  | cons c cs ih =>
    intro vs ds h
    cases vs with
    | nil => simp [cells3] at h
    | cons v vs => cases ds with
      | nil => simp [cells3] at h
      | cons d ds => have := ih h.2; simp [this.1, this.2]

/-- What a reading of so many cells says of each. -/
theorem trod_flatG {α β : Type} {R : α → Value → β → Prop} {Q : β → DataW H → Prop} {leaf : TypeId → Option α} (hQ : ∀ b d parts, d ∈ parts → Q b d → Q b (.agg parts))
    (hleaf : ∀ t a fuel cs x, leaf t = some a → DataW.trod enc P w base spare held fuel t cs = some x → ∃ v b, cs = [v] ∧ R a v b ∧ Q b x.1) :
    ∀ {n : Nat} {t : TypeId} {as : List α} {fuel : Nat} {cs : List Value} {x : DataW H × List MemPlace}, flatG P leaf n t = some as → (leaf t = none → P.cellsOf t = as.length) → DataW.trod enc P w base spare held fuel t cs = some x →
      ∃ bs, cells3 R as cs bs ∧ ∀ b ∈ bs, Q b x.1 := by
  intro n
  induction n with
  | zero => intro t as fuel cs x h; simp [flatG] at h
  | succ n ih =>
    intro t as fuel cs x h hC ht
    simp only [flatG] at h
    split at h
    · rename_i a ha
      simp only [Option.some.injEq] at h; subst h
      obtain ⟨v, b, rfl, hr, hq⟩ := hleaf t a fuel cs x ha ht
      exact ⟨[b], ⟨hr, trivial⟩, fun b' hb' => by simp at hb'; subst hb'; exact hq⟩
    · rename_i hl
      have hC := hC hl
      have ih' : ∀ {t : TypeId} {as : List α} {fuel : Nat} {cs : List Value} {x : DataW H × List MemPlace}, flatG P leaf n t = some as → P.cellsOf t = as.length → DataW.trod enc P w base spare held fuel t cs = some x → ∃ bs, cells3 R as cs bs ∧ ∀ b ∈ bs, Q b x.1 :=
        fun h1 h2 h3 => ih h1 (fun _ => h2) h3
      split at h
      · rename_i fs hu
        obtain ⟨xs, m, _, rfl, hlen, hxl, hf⟩ := DataW.trod_struct hu ht
        rw [hC] at hlen
        have key : ∀ (l : List Field) (off : Nat) (r : List α), flatGFs P (flatG P leaf n) off l = some r → off + r.length = cs.length → (∀ f ∈ l, ∃ y ∈ xs, DataW.trod enc P w base spare held m f.type ((cs.drop f.offset).take (P.cellsOf f.type)) = some y) →
            ∃ bs, cells3 R r (cs.drop off) bs ∧ ∀ b ∈ bs, Q b (.agg (xs.map (·.1))) := by
          intro l
          induction l with
          | nil =>
            intro off r h hl _
            simp only [flatGFs, Option.some.injEq] at h; subst h
            refine ⟨[], ?_, fun b hb => by simp at hb⟩
            rw [List.drop_of_length_le (by simp at hl; omega)]
            trivial
          | cons f l ihl =>
            intro off r h hl hall
            simp only [flatGFs] at h
            split at h
            · rename_i ho
              split at h
              · rename_i mm hm
                split at h
                · rename_i hcl
                  split at h
                  · rename_i r' hr'
                    simp only [Option.some.injEq] at h; subst h
                    obtain ⟨y, hy, hty⟩ := hall f (List.mem_cons_self ..)
                    obtain ⟨bs1, h1, h2⟩ := ih' hm hcl hty
                    obtain ⟨bs2, h3, h4⟩ := ihl (off + mm.length) r' hr' (by simp at hl; omega) (fun f hf => hall f (List.mem_cons_of_mem _ hf))
                    refine ⟨bs1 ++ bs2, ?_, fun b hb => ?_⟩
                    · have e : cs.drop off = (cs.drop off).take mm.length ++ cs.drop (off + mm.length) := by
                        rw [← List.drop_drop, List.take_append_drop]
                      rw [e]
                      rw [ho, hcl] at h1
                      exact cells3_append h1 h3
                    · rcases List.mem_append.1 hb with hb | hb
                      · exact hQ b y.1 _ (List.mem_map_of_mem hy) (h2 b hb)
                      · exact h4 b hb
                  · cases h
                · cases h
              · cases h
            · cases h
        have := key fs.toList 0 as h (by omega) (fun f hmem => by
          obtain ⟨i, hi⟩ := List.mem_iff_getElem?.1 hmem
          have hi' : fs[i]? = some f := by simpa using hi
          have h1 := hf i f hi'
          have hlt : i < xs.length := by rw [hxl]; exact (Array.getElem?_eq_some_iff.1 hi').1
          rw [List.getElem?_eq_getElem hlt] at h1
          exact ⟨_, List.getElem_mem hlt, h1⟩)
        simpa using this
      · rename_i len e hu
        split at h
        · rename_i mm hm
          split at h
          · rename_i hcl
            simp only [Option.some.injEq] at h; subst h
            obtain ⟨xs, m, _, rfl, hlen, hxl, hf⟩ := DataW.trod_array hu ht
            rw [hC] at hlen
            have hfl : ∀ k : Nat, (List.replicate k mm).flatten.length = k * mm.length := fun k => by simp
            rw [hfl] at hlen
            have key : ∀ k i : Nat, i + k = len → ∃ bs, cells3 R (List.replicate k mm).flatten (cs.drop (i * mm.length)) bs ∧ ∀ b ∈ bs, Q b (.agg (xs.map (·.1))) := by
              intro k
              induction k with
              | zero =>
                intro i hi
                have : i = len := by omega
                subst this
                refine ⟨[], ?_, fun b hb => by simp at hb⟩
                rw [List.drop_of_length_le (by omega)]
                trivial
              | succ k ihk =>
                intro i hi
                have h1 := hf i (by omega)
                rw [List.getElem?_eq_getElem (by omega), hcl] at h1
                obtain ⟨bs1, g1, g2⟩ := ih' hm hcl h1
                obtain ⟨bs2, g3, g4⟩ := ihk (i + 1) (by omega)
                refine ⟨bs1 ++ bs2, ?_, fun b hb => ?_⟩
                · have e1 : cs.drop (i * mm.length) = (cs.drop (i * mm.length)).take mm.length ++ cs.drop ((i + 1) * mm.length) := by
                    rw [Nat.add_mul, Nat.one_mul, ← List.drop_drop, List.take_append_drop]
                  have e2 : (List.replicate (k + 1) mm).flatten = mm ++ (List.replicate k mm).flatten := by simp [List.replicate_succ]
                  rw [e1, e2]
                  exact cells3_append g1 g3
                · rcases List.mem_append.1 hb with hb | hb
                  · exact hQ b _ _ (List.mem_map_of_mem (List.getElem_mem (by omega))) (g2 b hb)
                  · exact g4 b hb
            have := key len 0 (by omega)
            simpa using this
          · cases h
        · cases h
      · cases h

/-! ### The kinds of cells -/
def cellIn : CK → Int → Prop
  | .i k, n => k.min ≤ n ∧ n ≤ k.max
  | .b, n => n = 0 ∨ n = 1
def rowIn : List CK → List Int → Prop
  | [], [] => True
  | k :: ks, n :: ns => cellIn k n ∧ rowIn ks ns
  | _, _ => False
def leafK (P : Program) (t : TypeId) : Option CK :=
  match P.underlying t with
  | some (.int k) => some (.i k)
  | some .bool => some .b
  | _ => none
def leafC (P : Program) (t : TypeId) : Option CT :=
  match P.underlying t with
  | some (.int k) => some (.c (.i k))
  | some .bool => some (.c .b)
  | some (.slice e) => match flatG P (leafK P) 16 e with
    | some ks => if 0 < ks.length ∧ P.cellsOf e = ks.length then some (.s e ks) else none
    | none => none
  | _ => none

theorem wf_int {k : IntKind} {n : Int} (h : (Lit.int k n).wf = true) : k.min ≤ n ∧ n ≤ k.max := by simpa [Lit.wf] using h

theorem cells3_row : ∀ {ks : List CK} {vs : List Value} {row : List Int} (pre : List Int), cells3 (fun k v n => v = k.val n ∧ cellIn k n) ks vs row → vs = rowCells ks pre.length (pre ++ row) ∧ rowIn ks row := by
  intro ks
  induction ks with
  | nil => intro vs row pre h; cases vs <;> cases row <;> simp_all [cells3, rowCells, rowIn]
  | cons k ks ih =>
    intro vs row pre h
    cases vs with
    | nil => simp [cells3] at h
    | cons v vs => cases row with
      | nil => simp [cells3] at h
      | cons n row =>
        obtain ⟨⟨h1, h2⟩, h3⟩ := h
        obtain ⟨e1, e2⟩ := ih (pre ++ [n]) h3
        refine ⟨?_, h2, e2⟩
        simp only [rowCells]
        rw [h1, e1]
        congr 1
        · simp [List.getD]
        · simp

theorem elem_row {t : TypeId} {ks : List CK} {fuel : Nat} {cs : List Value} {x : DataW H × List MemPlace} (hk : flatG P (leafK P) 16 t = some ks) (hC : P.cellsOf t = ks.length) (h : DataW.trod enc P w base spare held fuel t cs = some x) :
    ∃ row, cs = rowCells ks 0 row ∧ rowIn ks row := by
  obtain ⟨row, h1, _⟩ := trod_flatG (R := fun k v n => v = k.val n ∧ cellIn k n) (Q := fun _ _ => True) (fun _ _ _ _ _ => trivial) (fun t a fuel cs x ha ht => by
    unfold leafK at ha
    split at ha
    · rename_i k hu
      simp only [Option.some.injEq] at ha; subst ha
      obtain ⟨n, rfl, _, hw⟩ := DataW.trod_int hu ht
      exact ⟨_, n, rfl, ⟨rfl, wf_int hw⟩, trivial⟩
    · rename_i hu
      simp only [Option.some.injEq] at ha; subst ha
      obtain ⟨b, rfl, _⟩ := DataW.trod_bool hu ht
      refine ⟨_, if b then 1 else 0, rfl, ⟨?_, ?_⟩, trivial⟩
      · cases b <;> simp [CK.val]
      · cases b <;> simp [cellIn]
    · cases ha) hk (fun _ => hC) h
  obtain ⟨e1, e2⟩ := cells3_row [] h1
  exact ⟨row, by simpa using e1, e2⟩

/-- What is known of an argument's data. -/
def dvIn : CT → DV → Prop
  | .c (.i k), .i n => cellIn (.i k) n
  | .c .b, .b _ => True
  | .s _ ks, .l xs => xs.length ≤ maxLen ∧ ∀ row ∈ xs, rowIn ks row
  | _, _ => False

def argR (w : World) : CT → Value → DV → Prop := fun c v d => fit1 (readsR w) c v d ∧ dvIn c d

theorem cells3_fit {w : World} : ∀ {cs : List CT} {vs : List Value} {ds : List DV}, cells3 (argR w) cs vs ds → fitAll (readsR w) cs vs ds := by
  intro cs
  induction cs with
  | nil => intro vs ds h; cases vs <;> cases ds <;> simp_all [cells3, fitAll]
  | cons c cs ih =>
    intro vs ds h
    cases vs with
    | nil => simp [cells3] at h
    | cons v vs => cases ds with
      | nil => simp [cells3] at h
      | cons d ds => exact ⟨h.1.1, ih h.2⟩

/-- The data of one cell of an argument. -/
theorem leafC_open {B : DataW H → Nat} (hB : ∀ es sp, List.length es ≤ B (.slice es sp)) (t : TypeId) (a : CT) (fuel : Nat) (cs : List Value) (x : DataW H × List MemPlace) (ha : leafC P t = some a) (ht : DataW.trod enc P w base spare held fuel t cs = some x) :
    ∃ v b, cs = [v] ∧ argR w a v b ∧ (∀ xs, b = DV.l xs → xs.length ≤ B x.1) := by
  unfold leafC at ha
  split at ha
  · rename_i k hu
    simp only [Option.some.injEq] at ha; subst ha
    obtain ⟨n, rfl, _, hw⟩ := DataW.trod_int hu ht
    exact ⟨_, .i n, rfl, ⟨rfl, wf_int hw⟩, fun xs h => by cases h⟩
  · rename_i hu
    simp only [Option.some.injEq] at ha; subst ha
    obtain ⟨b, rfl, _⟩ := DataW.trod_bool hu ht
    exact ⟨_, .b b, rfl, ⟨rfl, trivial⟩, fun xs h => by cases h⟩
  · rename_i e hu
    split at ha
    · rename_i ks hks
      split at ha
      · rename_i hc
        simp only [Option.some.injEq] at ha; subst ha
        rcases Go.Deep.open_slice hu ht with ⟨rfl, rfl⟩ | ⟨a, len, cap, m, n, D, Pl, rfl, hb, hl, hm, hmm, rfl, hi⟩
        · refine ⟨_, .l [], rfl, ⟨⟨hc.1, none, 0, rfl, Nat.zero_le _, fun _ => ⟨rfl, rfl⟩, fun j u hj => by simp [flatRows] at hj⟩, Nat.zero_le _, fun row hr => by simp at hr⟩, fun xs h => by cases h; exact Nat.zero_le _⟩
        · have hle : len ≤ m := by rw [hmm]; split <;> omega
          have hrow : ∀ i, i < len → ∃ row, (∃ cs', w.cells? base (a.add (i * ks.length)) ks.length = some cs' ∧ cs' = rowCells ks 0 row) ∧ rowIn ks row := fun i hil => by
            obtain ⟨cs', h1, h2⟩ := hi i (by omega)
            obtain ⟨row, h3, h4⟩ := elem_row hks hc.2 h2
            rw [hc.2] at h1
            exact ⟨row, ⟨cs', h1, h3⟩, h4⟩
          have hall : ∀ k, k ≤ len → ∃ xs : List (List Int), xs.length = k ∧ (∀ i, i < k → ∃ row, xs[i]? = some row ∧ rowIn ks row ∧ w.cells? base (a.add (i * ks.length)) ks.length = some (rowCells ks 0 row)) := by
            intro k
            induction k with
            | zero => intro _; exact ⟨[], rfl, fun i h => by omega⟩
            | succ k ih =>
              intro hk
              obtain ⟨xs, hxl, hx⟩ := ih (by omega)
              obtain ⟨row, ⟨cs', h1, rfl⟩, h2⟩ := hrow k (by omega)
              refine ⟨xs ++ [row], by simp [hxl], fun i hik => ?_⟩
              rcases Nat.lt_or_ge i k with h | h
              · obtain ⟨r, e1, e2⟩ := hx i h
                exact ⟨r, by rw [List.getElem?_append_left (by omega)]; exact e1, e2⟩
              · have : i = k := by omega
                subst this
                exact ⟨row, by rw [List.getElem?_append_right (by omega)]; simp [hxl], h2, h1⟩
          obtain ⟨xs, hxl, hx⟩ := hall len (Nat.le_refl _)
          have hin : ∀ row ∈ xs, rowIn ks row := fun row hrow => by
            obtain ⟨i, hi⟩ := List.mem_iff_getElem?.1 hrow
            obtain ⟨r, e1, e2, _⟩ := hx i (by have := (List.getElem?_eq_some_iff.1 hi).1; omega)
            rw [hi, Option.some.injEq] at e1
            subst e1
            exact e2
          refine ⟨_, .l xs, rfl, ⟨⟨hc.1, some a, cap, by rw [hxl], by omega, fun h => (by cases h), fun j u hj => ⟨a, rfl, ?_⟩⟩, by omega, hin⟩, fun ys h => (by cases h; exact Nat.le_trans (by simp [hxl]) (hB _ _))⟩
          have hjl : j < xs.length * ks.length := by rw [← flatRows_length]; exact (List.getElem?_eq_some_iff.1 hj).1
          have hq : j / ks.length < xs.length := Nat.div_lt_of_lt_mul (by rw [Nat.mul_comm]; exact hjl)
          have hr : j % ks.length < ks.length := Nat.mod_lt _ hc.1
          have hjj : j = (j / ks.length) * ks.length + j % ks.length := by rw [Nat.mul_comm]; exact (Nat.div_add_mod j ks.length).symm
          obtain ⟨row, e1, e2, e3⟩ := hx (j / ks.length) (by omega)
          obtain ⟨_, _, hat⟩ := World.cells?_some e3
          have h1 := hat (j % ks.length) hr
          rw [hjj, flatRows_get ks xs _ _ hq hr] at hj
          rw [rowCells_get] at h1
          simp only [List.getD_eq_getElem?_getD, e1, Option.getD_some] at hj
          simp only [Nat.zero_add, List.getD_eq_getElem?_getD] at h1
          rw [hj] at h1
          rw [hjj, ← h1]
          congr 1
          rw [add_add']
      · cases ha
    · cases ha
  · cases ha

end Go.Sx
