/- Layer 7: Prims: what a round of the loop does to what it keeps. -/
import Derived.Test.YtjcomklheilfjaaPrims
import Derived.Test.YtjcomklheilfjaaApp
set_option linter.unusedVariables false
set_option linter.unusedSimpArgs false
namespace Go.Proofs.Ytjcomklheilfjaa.Build
open Go.RowKit Go

theorem undrew {w w' : World} (h : Below w.drew.heap.size w.drew w') : Below w.heap.size w w' := (Below.refl w.heap.size w).drew.trans h
theorem old_keep {w : World} {o : Obj} {a : Addr} {x : Value} (h : w.cell? a = some x) : (w.alloc o).cell? a = some x := by rw [old_cell (lt_of_cell h)]; exact h
theorem three_stores {w : World} {g : Nat} {a b c x : Value} {q : Addr} (hne : g ≠ q.block) (h : w.cell? q = some x) : (((w.setCell ⟨g, 0, none⟩ a).setCell ⟨g, 1, none⟩ b).setCell ⟨g, 2, none⟩ c).cell? q = some x := by
  rw [other_cell (by exact hne), other_cell (by exact hne), other_cell (by exact hne)]; exact h
theorem EdgeR.alloc {B : Nat} {w : World} {v : Value} {E : List Bool} (h : EdgeR B w v E) (o : Obj) : EdgeR B (w.alloc o) v E := by
  rcases h with h | ⟨g, h1, h2, h3⟩
  · exact .inl h
  · exact .inr ⟨g, h1, h2, h3.alloc o⟩
theorem EdgeR.other {B : Nat} {w : World} {v : Value} {E : List Bool} (h : EdgeR B w v E) {a : Addr} (ha : a.block < B) (u : Value) : EdgeR B (w.setCell a u) v E := by
  rcases h with h | ⟨g, h1, h2, h3⟩
  · exact .inl h
  · exact .inr ⟨g, h1, h2, h3.other (by have := h1.1; omega) u⟩
theorem EdgeR.mono {B B' : Nat} {w : World} {v : Value} {E : List Bool} (h : EdgeR B w v E) (hB : B' ≤ B) : EdgeR B' w v E := by
  rcases h with h | ⟨g, ⟨h1, h0⟩, h2, h3⟩
  · exact .inl h
  · exact .inr ⟨g, ⟨by omega, h0⟩, h2, h3⟩
theorem EdgeR.keep {B D : Nat} {w w' : World} {v : Value} {E : List Bool} (h : EdgeR B w v E) (hb : Below w.heap.size w w') : EdgeR B w' v E := by
  rcases h with h | ⟨g, h1, h2, h3⟩
  · exact .inl h
  · exact .inr ⟨g, h1, h2, h3.keep hb h3.lt⟩
theorem EdgeR.erow {B : Nat} {w : World} {v : Value} {E : List Bool} (h : EdgeR B w v E) : ERow w v E := by
  rcases h with h | ⟨g, ⟨h1, h0⟩, h2, h3⟩
  · exact .inl h
  · exact .inr ⟨g, _, h2, h0, fun k hk => by rw [h3.cell]; simp [bools, List.getD_eq_getElem?_getD, hk]⟩
theorem EdgeR.own {B : Nat} {w : World} {v : Value} {E : List Bool} (h : EdgeR B w v E) : ∀ g, v.ownBlock = some g → B ≤ g := by
  rcases h with ⟨_, rfl⟩ | ⟨g, ⟨h1, h0⟩, rfl, h3⟩
  · intro x hx; cases hx
  · intro x hx
    have : g = x := by simpa [Value.ownBlock] using hx
    omega
theorem EdgeR.ownlt {B : Nat} {w : World} {v : Value} {E : List Bool} (h : EdgeR B w v E) : ∀ g, v.ownBlock = some g → g < w.heap.size := by
  rcases h with ⟨_, rfl⟩ | ⟨g, ⟨h1, h0⟩, rfl, h3⟩
  · intro x hx; cases hx
  · intro x hx
    have : g = x := by simpa [Value.ownBlock] using hx
    subst this
    exact h3.lt
theorem EdgeR.other2 {B : Nat} {w : World} {v : Value} {E : List Bool} (h : EdgeR B w v E) {a : Addr} (ha : v.ownBlock ≠ some a.block) (u : Value) : EdgeR B (w.setCell a u) v E := by
  rcases h with h | ⟨g, h1, rfl, h3⟩
  · exact .inl h
  · exact .inr ⟨g, h1, rfl, h3.other (fun e => ha (by rw [e]; rfl)) u⟩
/-- What the loop finds. -/
structure Base (W0 : World) (pb : Nat) (p : Plan) (vg vc : Nat) (os : Value) (fb : Option Addr) (fs : List Bool) : Prop where
  c0 : W0.cell? ⟨pb, 0, none⟩ = some (.int .i64 p.step)
  c1 : W0.cell? ⟨pb, 1, none⟩ = some (.slice (some ⟨vg, 0, none⟩) p.v.length vc)
  c2 : W0.cell? ⟨pb, 2, none⟩ = some os
  c3 : W0.cell? ⟨pb, 3, none⟩ = some (.int .i64 p.first)
  c4 : W0.cell? ⟨pb, 4, none⟩ = some (.int .i64 p.last)
  c5 : W0.cell? ⟨pb, 5, none⟩ = some (.bool p.flagged)
  c6 : W0.cell? ⟨pb, 6, none⟩ = some (.bool p.anchored)
  v : ∀ k, k < p.v.length → W0.cell? ⟨vg, k, none⟩ = some (.int .i64 (p.v.getD k 0))
  o0 : p.odd = [] → os = .slice none 0 0
  o1 : p.odd ≠ [] → ∃ og oc, os = .slice (some ⟨og, 0, none⟩) p.odd.length oc ∧ ∀ k, k < p.odd.length → W0.cell? ⟨og, k, none⟩ = some (.int .i64 (p.odd.getD k 0))
  f : FlagR W0 fb fs
theorem Base.below {W0 w' : World} {pb : Nat} {p : Plan} {vg vc : Nat} {os : Value} {fb : Option Addr} {fs : List Bool} (h : Base W0 pb p vg vc os fb fs) (hb : Below W0.heap.size W0 w') : Base w' pb p vg vc os fb fs := by
  obtain ⟨c0, c1, c2, c3, c4, c5, c6, v, o0, o1, f⟩ := h
  refine ⟨keep_cell hb c0, keep_cell hb c1, keep_cell hb c2, keep_cell hb c3, keep_cell hb c4, keep_cell hb c5, keep_cell hb c6, fun k hk => keep_cell hb (v k hk), o0, fun h => ?_, fun m hm => ?_⟩
  · obtain ⟨og, oc, e, h1⟩ := o1 h
    exact ⟨og, oc, e, fun k hk => keep_cell hb (h1 k hk)⟩
  · obtain ⟨fa, e, h1⟩ := f m hm
    exact ⟨fa, e, keep_cell hb h1⟩
theorem ints_cell {V : List Int} {w : World} {g : Nat} (h : ∀ j u, (ints V)[j]? = some u → w.cell? ⟨g, j, none⟩ = some u) : ∀ k, k < V.length → w.cell? ⟨g, k, none⟩ = some (.int .i64 (V.getD k 0)) := fun k hk => h k _ (by simp [ints, List.getD_eq_getElem?_getD, hk])
theorem countF_bd (m n : Nat) (hn : n ≤ 256) : 0 ≤ countF m n ∧ countF m n ≤ 256 ∧ (0 < countF m n → 1 ≤ n) := by
  unfold countF
  by_cases h1 : (m : Int) < 0 ∨ 9 < (m : Int) ∨ (n : Int) < 1 ∨ 256 < (n : Int)
  · rw [if_pos h1]; omega
  · rw [if_neg h1]
    by_cases h2 : (m : Int) = 9
    · rw [if_pos h2]; split <;> omega
    · rw [if_neg h2]
      by_cases h3 : (m : Int) = 3
      · rw [if_pos h3]; split <;> omega
      · rw [if_neg h3, Int.toNat_natCast]
        by_cases h4 : (n : Int) < (planOf m).v.length
        · rw [if_pos h4]; omega
        · rw [if_neg h4]
          obtain ⟨s1, s2⟩ := planOf_step m
          obtain ⟨l1, l2⟩ := planOf_len m
          have e : ((n : Int) - (planOf m).v.length).tdiv (planOf m).step = ((n : Int) - (planOf m).v.length) / (planOf m).step := Int.tdiv_eq_ediv_of_nonneg (by omega)
          rw [e]
          have h5 := Int.ediv_nonneg (a := (n : Int) - (planOf m).v.length) (b := (planOf m).step) (by omega) (by omega)
          have h6 := Int.ediv_le_self (planOf m).step (show 0 ≤ (n : Int) - (planOf m).v.length by omega)
          omega
theorem countN_cast (m n : Nat) (hn : n ≤ 256) : (countN m n : Int) = countF m n := by
  have := (countF_bd m n hn).1
  unfold countN; omega
theorem planOf_bd (m : Nat) : (0 ≤ (planOf m).first ∧ (planOf m).first ≤ 3) ∧ (0 ≤ (planOf m).last ∧ (planOf m).last ≤ 3) ∧ ((planOf m).odd = [] ∨ (planOf m).odd.length = (planOf m).v.length) ∧ (∀ k, 0 ≤ (planOf m).v.getD k 0 ∧ (planOf m).v.getD k 0 ≤ 3) ∧ (∀ k, 0 ≤ (planOf m).odd.getD k 0 ∧ (planOf m).odd.getD k 0 ≤ 3) := by
  have small : ∀ (l : List Int), (∀ x ∈ l, 0 ≤ x ∧ x ≤ 3) → ∀ k, 0 ≤ l.getD k 0 ∧ l.getD k 0 ≤ 3 := fun l hl k => by
    rcases Nat.lt_or_ge k l.length with h | h
    · have := hl l[k] (List.getElem_mem h)
      simpa [List.getD_eq_getElem?_getD, h] using this
    · simp [List.getD_eq_getElem?_getD, h]
  match m with
  | 0 | 1 | 2 | 3 | 4 | 5 | 6 | 7 => exact ⟨by decide, by decide, by decide, small _ (by decide), small _ (by decide)⟩
  | m + 8 => exact ⟨(show (0 : Int) ≤ 0 ∧ (0 : Int) ≤ 3 by decide), (show (0 : Int) ≤ 3 ∧ (3 : Int) ≤ 3 by decide), .inl rfl, small [0, 1, 3, 2] (by decide), small [] (by decide)⟩
theorem addOf_bd (m i : Nat) : (addOf (planOf m) i).length = (planOf m).v.length ∧ ∀ k, 0 ≤ (addOf (planOf m) i).getD k 0 ∧ (addOf (planOf m) i).getD k 0 ≤ 3 := by
  obtain ⟨_, _, h3, h4, h5⟩ := planOf_bd m
  unfold addOf
  split
  · rename_i h
    rcases h3 with h3 | h3
    · exact absurd h3 h.2
    · exact ⟨h3, h5⟩
  · exact ⟨rfl, h4⟩
theorem prim_step {W0 wo wc w5 : World} {u v' ve : Value} {p : Plan} {fs : List Bool} {first : Bool} {k L : Nat} {V : List Int} {PF : Int} {o : Obj} {cs : List Value}
    (hinv : PInv W0 u ((List.range k).map (primF p fs first)) wo) (hwow : Below wo.heap.size wo wc) (hVb : Blk wc wo.heap.size 3 (ints V)) (hE : EdgeR wo.heap.size wc ve (sidesF V fs p.flagged)) (hV : V = vertsOf p fs.length k) (hVl : V.length = L) (hL : 1 ≤ L) (hPF : PF = (primF p fs first k).P)
    (hown : wc.ownsRow W0.heap.size 35 3 u k cs) (hel : Elems wc u.ownBlock cs ((List.range k).map (primF p fs first))) (hown5 : w5.ownsRow W0.heap.size 35 3 v' (k + 1) (cs ++ [.slice (some ⟨wo.heap.size, 0, none⟩) L L, ve, .int .i64 PF])) (hg5 : (wc.alloc o).grownBy w5 u.ownBlock) (hat : v'.ownBlock = u.ownBlock ∨ v'.ownBlock = some (wc.heap.size + 1)) :
    PInv W0 v' ((List.range (k + 1)).map (primF p fs first)) w5 := by
  have hplen : ((List.range k).map (primF p fs first)).length = k := by simp
  have hown0 : ∀ g, u.ownBlock = some g → W0.heap.size ≤ g ∧ g < wo.heap.size := fun g hg => by
    obtain ⟨cs', h', _⟩ := hinv.2
    exact h'.lt g hg
  have hsz := hwow.size
  have hVr : VRow wc (.slice (some ⟨wo.heap.size, 0, none⟩) L L) V := ⟨wo.heap.size, L, by rw [hVl], by omega, fun j hj => by
    rw [hVb.cell]; simp [ints, List.getD_eq_getElem?_getD, hj]⟩
  rw [List.range_succ, List.map_append]
  refine PInv.more (wr := wc) (p := primF p fs first k) (vv := .slice (some ⟨wo.heap.size, 0, none⟩) L L) (ve := ve) (n' := k + 1) (by rw [hplen]) (hinv.below hwow).1 (by rw [← hPF]; exact hown5) (by rw [hplen]; exact hown.1) hel (fun g hg => ?_) ?_ ?_ ?_ ?_ hg5 hat
  · have h1 := hown0 g hg; omega
  · show VRow wc _ (vertsOf p fs.length k); rw [← hV]; exact hVr
  · show ERow wc _ (sidesF (vertsOf p fs.length k) fs p.flagged); rw [← hV]; exact hE.erow
  · exact fun e => Nat.lt_irrefl _ (hown0 wo.heap.size e.symm).2
  · cases h : ve.ownBlock with
    | none => exact .inl rfl
    | some g =>
      refine .inr (fun e => ?_)
      have h1 := hE.own g h
      have h2 := hown0 g e.symm
      omega
end Go.Proofs.Ytjcomklheilfjaa.Build
