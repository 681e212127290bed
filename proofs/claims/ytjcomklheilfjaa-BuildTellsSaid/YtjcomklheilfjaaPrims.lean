/- Layer 7: Prims: the primitives, walked. -/
import Derived.Test.YtjcomklheilfjaaSides
import Derived.Test.YtjcomklheilfjaaCount
import Derived.Deep.RegionHeld3
import Derived.Deep.Cut
import Derived.Deep.CutRange
set_option linter.unusedVariables false
set_option linter.unusedSimpArgs false
namespace Go.Proofs.Ytjcomklheilfjaa.Build
open Go.RowKit Go

structure PrimD where
  V : List Int
  E : List Bool
  P : Int
def addOf (p : Plan) (i : Nat) : List Int := if i % 2 = 1 ∧ p.odd ≠ [] then p.odd else p.v
def vertF (p : Plan) (n i k : Nat) : Int := if p.anchored = true ∧ k = 0 then 0 else (p.step * i + (addOf p i).getD k 0) % (n : Int)
def vertsOf (p : Plan) (n i : Nat) : List Int := (List.range (addOf p i).length).map (vertF p n i)
def primF (p : Plan) (fs : List Bool) (first : Bool) (i : Nat) : PrimD := ⟨vertsOf p fs.length i, sidesF (vertsOf p fs.length i) fs p.flagged, if first then p.step * i + p.first else (p.step * i + p.last) % (fs.length : Int)⟩
def countN (m n : Nat) : Nat := (countF m n).toNat
def primsF (m : Nat) (fs : List Bool) (first : Bool) : List PrimD := (List.range (countN m fs.length)).map (primF (planOf m) fs first)
/-- A slice of numbers that reads so. -/
def VRow (w : World) (v : Value) (V : List Int) : Prop := ∃ g cap, v = .slice (some ⟨g, 0, none⟩) V.length cap ∧ 0 < V.length ∧ ∀ k, k < V.length → w.cell? ⟨g, k, none⟩ = some (.int .i64 (V.getD k 0))
def ERow (w : World) (v : Value) (E : List Bool) : Prop := (E = [] ∧ v = .slice none 0 0) ∨ ∃ g cap, v = .slice (some ⟨g, 0, none⟩) E.length cap ∧ 0 < E.length ∧ ∀ k, k < E.length → w.cell? ⟨g, k, none⟩ = some (.bool (E.getD k false))
/-- The elements' cells, of a row that lies in block g. -/
def Elems (w : World) (own : Option Nat) (cs : List Value) (ps : List PrimD) : Prop := ∀ i p, ps[i]? = some p → ∃ vv ve, cs[i * 3]? = some vv ∧ cs[i * 3 + 1]? = some ve ∧ cs[i * 3 + 2]? = some (.int .i64 p.P) ∧ VRow w vv p.V ∧ ERow w ve p.E ∧ vv.ownBlock ≠ own ∧ (ve.ownBlock = none ∨ ve.ownBlock ≠ own)
/-- A list of primitives that reads so. -/
def PrimsR (w : World) (v : Value) (ps : List PrimD) : Prop := (ps = [] ∧ ∃ a cap, v = .slice a 0 cap) ∨ ∃ g cap, v = .slice (some ⟨g, 0, none⟩) ps.length cap ∧ ∀ i p, ps[i]? = some p → ∃ vv ve, w.cell? ⟨g, i * 3, none⟩ = some vv ∧ w.cell? ⟨g, i * 3 + 1, none⟩ = some ve ∧ w.cell? ⟨g, i * 3 + 2, none⟩ = some (.int .i64 p.P) ∧ VRow w vv p.V ∧ ERow w ve p.E
theorem VRow.keep {w w' : World} {v : Value} {V : List Int} (h : VRow w v V) (hc : ∀ a x, w.cell? a = some x → (∀ g, v.ownBlock = some g → a.block = g) → w'.cell? a = some x) : VRow w' v V := by
  obtain ⟨g, cap, rfl, h0, h1⟩ := h
  exact ⟨g, cap, rfl, h0, fun k hk => hc _ _ (h1 k hk) (fun x hx => by simpa [Value.ownBlock] using hx)⟩
theorem ERow.keep {w w' : World} {v : Value} {E : List Bool} (h : ERow w v E) (hc : ∀ a x, w.cell? a = some x → (∀ g, v.ownBlock = some g → a.block = g) → w'.cell? a = some x) : ERow w' v E := by
  rcases h with h | ⟨g, cap, rfl, h0, h1⟩
  · exact .inl h
  · exact .inr ⟨g, cap, rfl, h0, fun k hk => hc _ _ (h1 k hk) (fun x hx => by simpa [Value.ownBlock] using hx)⟩
theorem VRow.below {w w' : World} {v : Value} {V : List Int} (h : VRow w v V) (hb : Below w.heap.size w w') : VRow w' v V := h.keep fun a x hx _ => keep_cell hb hx
theorem ERow.below {w w' : World} {v : Value} {E : List Bool} (h : ERow w v E) (hb : Below w.heap.size w w') : ERow w' v E := h.keep fun a x hx _ => keep_cell hb hx
theorem VRow.lt {w : World} {v : Value} {V : List Int} (h : VRow w v V) : ∀ g, v.ownBlock = some g → g < w.heap.size := by
  obtain ⟨g, cap, rfl, h0, h1⟩ := h
  intro x hx
  have : g = x := by simpa [Value.ownBlock] using hx
  subst this
  exact lt_of_cell (h1 0 h0)
theorem ERow.lt {w : World} {v : Value} {E : List Bool} (h : ERow w v E) : ∀ g, v.ownBlock = some g → g < w.heap.size := by
  rcases h with ⟨_, rfl⟩ | ⟨g, cap, rfl, h0, h1⟩
  · intro x hx; cases hx
  · intro x hx
    have : g = x := by simpa [Value.ownBlock] using hx
    subst this
    exact lt_of_cell (h1 0 h0)
theorem PrimsR.below {w w' : World} {v : Value} {ps : List PrimD} (h : PrimsR w v ps) (hb : Below w.heap.size w w') : PrimsR w' v ps := by
  rcases h with h | ⟨g, cap, rfl, h1⟩
  · exact .inl h
  · refine .inr ⟨g, cap, rfl, fun i p hp => ?_⟩
    obtain ⟨vv, ve, c1, c2, c3, c4, c5⟩ := h1 i p hp
    exact ⟨vv, ve, keep_cell hb c1, keep_cell hb c2, keep_cell hb c3, c4.below hb, c5.below hb⟩
/-- What the loop keeps: the list so far. -/
def PInv (W0 : World) (v : Value) (ps : List PrimD) (wr : World) : Prop := Below W0.heap.size W0 wr ∧ ∃ cs, wr.ownsRow W0.heap.size 35 3 v ps.length cs ∧ Elems wr v.ownBlock cs ps
theorem PInv.start (W0 : World) : PInv W0 (.slice none 0 0) [] W0 := ⟨Below.refl _ _, [], World.ownsRow_nil _ _ _ _, fun i p h => by simp at h⟩
theorem PInv.below {W0 wr w' : World} {v : Value} {ps : List PrimD} (h : PInv W0 v ps wr) (hb : Below wr.heap.size wr w') : PInv W0 v ps w' := by
  obtain ⟨h1, cs, h2, h3⟩ := h
  refine ⟨h1.trans (hb.mono h1.size), cs, ?_, fun i p hp => ?_⟩
  · obtain ⟨g1, g2⟩ := h2
    refine ⟨g1, ?_⟩
    rcases g2 with g2 | ⟨g, cap, cur, hv, hg, hh, r⟩
    · exact .inl g2
    · exact .inr ⟨g, cap, cur, hv, hg, by rw [hb.block g ((Array.getElem?_eq_some_iff.1 hh).1)]; exact hh, r⟩
  · obtain ⟨vv, ve, c1, c2, c3, c4, c5, c6⟩ := h3 i p hp
    exact ⟨vv, ve, c1, c2, c3, c4.below hb, c5.below hb, c6⟩
/-- The list's end: as it reads. -/
theorem PInv.done {W0 wr : World} {v : Value} {ps : List PrimD} (h : PInv W0 v ps wr) : PrimsR wr v ps := by
  obtain ⟨h1, cs, h2, h3⟩ := h
  rcases h2.2 with ⟨rfl, h0⟩ | ⟨g, cap, cur, rfl, _⟩
  · exact .inl ⟨List.eq_nil_of_length_eq_zero h0, none, 0, rfl⟩
  · refine .inr ⟨g, cap, rfl, fun i p hp => ?_⟩
    obtain ⟨vv, ve, c1, c2, c3, c4, c5, _⟩ := h3 i p hp
    have hi : i < ps.length := (List.getElem?_eq_some_iff.1 hp).1
    refine ⟨vv, ve, ?_, ?_, ?_, c4, c5⟩
    · rw [h2.cellAt (i * 3) (by omega)]; exact c1
    · rw [h2.cellAt (i * 3 + 1) (by omega)]; exact c2
    · rw [h2.cellAt (i * 3 + 2) (by omega)]; exact c3
/-- One more. -/
theorem PInv.more {W0 wr w2 w3 : World} {v v' : Value} {ps : List PrimD} {p : PrimD} {vv ve : Value} {o : Obj} {n' : Nat} {cs : List Value} (hn : n' = ps.length + 1) (h1 : Below W0.heap.size W0 w2) (hown : w3.ownsRow W0.heap.size 35 3 v' n' (cs ++ [vv, ve, .int .i64 p.P])) (hcs : cs.length = ps.length * 3) (hel : Elems w2 v.ownBlock cs ps) (hvl : ∀ g, v.ownBlock = some g → W0.heap.size ≤ g ∧ g < w2.heap.size)
    (hV : VRow w2 vv p.V) (hE : ERow w2 ve p.E) (hvv : vv.ownBlock ≠ v.ownBlock) (hve : ve.ownBlock = none ∨ ve.ownBlock ≠ v.ownBlock) (hg : (w2.alloc o).grownBy w3 v.ownBlock) (hat : v'.ownBlock = v.ownBlock ∨ v'.ownBlock = some (w2.heap.size + 1)) : PInv W0 v' (ps ++ [p]) w3 := by
  have hW := h1.size
  have hcell : ∀ a x, w2.cell? a = some x → some a.block ≠ v.ownBlock → w3.cell? a = some x := fun a x hx hne => by
    have hlt := lt_of_cell hx
    rw [World.cell?_of_block (w := w2.alloc o) (hg.block a.block (by simp; omega) hne), old_cell hlt]; exact hx
  have hkV : ∀ {u : Value} {V : List Int}, VRow w2 u V → u.ownBlock ≠ v.ownBlock → VRow w3 u V := fun {u V} h hne => by
    have h' := h
    obtain ⟨g, cap, rfl, h0, _⟩ := h'
    exact h.keep fun a x hx hb => hcell a x hx (fun e => hne (by rw [← e, hb g rfl]; rfl))
  have hkE : ∀ {u : Value} {E : List Bool}, ERow w2 u E → (u.ownBlock = none ∨ u.ownBlock ≠ v.ownBlock) → ERow w3 u E := fun {u E} h hne => by
    have h' := h
    rcases h' with ⟨rfl, rfl⟩ | ⟨g, cap, rfl, h0, _⟩
    · exact .inl ⟨rfl, rfl⟩
    · rcases hne with hne | hne
      · cases hne
      · exact h.keep fun a x hx hb => hcell a x hx (fun e => hne (by rw [← e, hb g rfl]; rfl))
  have hnew : ∀ {u : Value}, (∀ g, u.ownBlock = some g → g < w2.heap.size) → u.ownBlock ≠ v.ownBlock → u.ownBlock ≠ v'.ownBlock ∨ u.ownBlock = none := fun {u} hl hne => by
    rcases hat with h | h
    · rw [h]; exact .inl hne
    · cases hu : u.ownBlock with
      | none => exact .inr rfl
      | some g => exact .inl (by rw [h]; intro e; have := hl g hu; simp at e; omega)
  subst hn
  refine ⟨?_, cs ++ [vv, ve, .int .i64 p.P], by rw [List.length_append]; exact hown, fun i q hq => ?_⟩
  · refine h1.trans ⟨hg.os.trans rfl, hg.tape.trans rfl, hg.output.trans rfl, by have := hg.size; simp at this; omega, fun k hk => ?_⟩
    rw [hg.block k (by simp; omega) (fun e => by have := (hvl k e.symm).1; omega)]
    exact Below.heap_alloc _ _ _ (by omega)
  · rcases Nat.lt_or_ge i ps.length with hi | hi
    · rw [List.getElem?_append_left hi] at hq
      obtain ⟨vv', ve', c1, c2, c3, c4, c5, c6, c7⟩ := hel i q hq
      refine ⟨vv', ve', by rw [List.getElem?_append_left (by omega)]; exact c1, by rw [List.getElem?_append_left (by omega)]; exact c2, by rw [List.getElem?_append_left (by omega)]; exact c3, hkV c4 c6, hkE c5 c7, ?_, ?_⟩
      · rcases hnew c4.lt c6 with h | h
        · exact h
        · obtain ⟨g, cap, rfl, _⟩ := c4; cases h
      · rcases c7 with h | h
        · exact .inl h
        · exact (hnew c5.lt h).symm
    · have hi2 : i = ps.length := by
        have := (List.getElem?_eq_some_iff.1 hq).1
        simp at this; omega
      subst hi2
      have hqp : p = q := by simpa using hq
      subst hqp
      refine ⟨vv, ve, by rw [List.getElem?_append_right (by omega), hcs]; simp, by rw [List.getElem?_append_right (by omega), hcs]; simp, by rw [List.getElem?_append_right (by omega), hcs]; simp, hkV hV hvv, hkE hE hve, ?_, ?_⟩
      · rcases hnew hV.lt hvv with h | h
        · exact h
        · obtain ⟨g, cap, rfl, _⟩ := hV; cases h
      · rcases hve with h | h
        · exact .inl h
        · exact (hnew hE.lt h).symm
end Go.Proofs.Ytjcomklheilfjaa.Build
