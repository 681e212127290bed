/- Layer 3: what stays while a list is appended to through a pointer. -/
import Derived.Test.YtfdpnmohpdekiaaPlays
import Derived.Test.YtfdpnmohpdekiaaNeeds
import Derived.Deep.AppendLies
set_option linter.unusedVariables false
set_option linter.unusedSimpArgs false
namespace Go.Proofs.Ytfdpnmohpdekiaa.Guard
open Go.RowKit Go

/-- From w to w' only block pb, the row that v owns, and new blocks have turned; what v' owns is v's row, or new. -/
structure Turned (pb : Nat) (w : World) (v : Value) (w' : World) (v' : Value) : Prop where
  os : w'.os = w.os
  tape : w'.tape = w.tape
  output : w'.output = w.output
  size : w.heap.size ≤ w'.heap.size
  block : ∀ k, k < w.heap.size → k ≠ pb → v.ownBlock ≠ some k → w'.heap[k]? = w.heap[k]?
  own : ∀ g, v'.ownBlock = some g → v.ownBlock = some g ∨ w.heap.size ≤ g
theorem Turned.refl (pb : Nat) (w : World) (v : Value) : Turned pb w v w v := ⟨rfl, rfl, rfl, Nat.le_refl _, fun _ _ _ _ => rfl, fun _ h => .inl h⟩
theorem Turned.trans {pb : Nat} {w w1 w2 : World} {v v1 v2 : Value} (h : Turned pb w v w1 v1) (k : Turned pb w1 v1 w2 v2) : Turned pb w v w2 v2 := by
  refine ⟨k.os.trans h.os, k.tape.trans h.tape, k.output.trans h.output, Nat.le_trans h.size k.size, fun i hi hp hv => ?_, fun g hg => ?_⟩
  · have h1 := h.size
    rw [k.block i (by omega) hp (fun e => by
      rcases h.own i e with h2 | h2
      · exact hv h2
      · omega)]
    exact h.block i hi hp hv
  · have h1 := h.size
    rcases k.own g hg with h2 | h2
    · exact h.own g h2
    · right; omega
theorem Turned.drew {pb : Nat} {w w1 : World} {v v1 : Value} (h : Turned pb w v w1 v1) : Turned pb w v w1.drew v1 := ⟨h.os, h.tape, h.output, h.size, h.block, h.own⟩
theorem Turned.of_below {pb : Nat} {w w1 : World} {v : Value} (h : Below w.heap.size w w1) : Turned pb w v w1 v := ⟨h.os, h.tape, h.output, h.size, fun k hk _ _ => h.block k hk, fun _ h => .inl h⟩
theorem Turned.alloc {pb : Nat} {w w1 : World} {v v1 : Value} (h : Turned pb w v w1 v1) (o : Obj) : Turned pb w v (w1.alloc o) v1 := h.trans (Turned.of_below ((Below.refl _ _).alloc (Nat.le_refl _) _))
theorem Turned.set {pb : Nat} {w w1 : World} {v v1 : Value} (h : Turned pb w v w1 v1) {a : Addr} (ha : a.block = pb) (u : Value) : Turned pb w v (w1.setCell a u) v1 :=
  h.trans ⟨rfl, rfl, rfl, by simp [World.setCell], fun k _ hk _ => Below.heap_setCell _ _ _ _ (by rw [ha]; exact hk), fun _ h => .inl h⟩
theorem Turned.grown {pb : Nat} {w w1 : World} {v : Value} {g n cap : Nat} (hg : w.grownBy w1 v.ownBlock) (hat : v.ownBlock = some g ∨ g = w.heap.size) : Turned pb w v w1 (.slice (some ⟨g, 0, none⟩) n cap) := by
  refine ⟨hg.os, hg.tape, hg.output, hg.size, fun k hk _ hv => hg.block k hk (fun e => hv e.symm), fun x hx => ?_⟩
  have : x = g := by simpa [Value.ownBlock] using hx.symm
  subst this
  rcases hat with h | h
  · exact .inl h
  · exact .inr (by omega)
theorem Turned.cell {pb : Nat} {w w1 : World} {v v1 : Value} (h : Turned pb w v w1 v1) {a : Addr} (h1 : a.block < w.heap.size) (h2 : a.block ≠ pb) (h3 : v.ownBlock ≠ some a.block) : w1.cell? a = w.cell? a := World.cell?_of_block (w := w) (h.block a.block h1 h2 h3)
theorem Turned.frozen {pb : Nat} {w w1 : World} {v v1 : Value} (h : Turned pb w v w1 v1) {a : Addr} (h1 : a.block < w.heap.size) (h2 : a.block ≠ pb) (h3 : v.ownBlock ≠ some a.block) : w1.frozen? a = w.frozen? a := World.frozen?_of_block (w := w) (h.block a.block h1 h2 h3)
/-- What a value owns, it owns as long as its row stays. -/
theorem owns_keep {w w' : World} {B : Nat} {e : TypeId} {s : Nat} {v : Value} {n : Nat} {xs : List Value} (h : w.ownsRow B e s v n xs) (hk : ∀ g, v.ownBlock = some g → w'.heap[g]? = w.heap[g]?) : w'.ownsRow B e s v n xs := by
  obtain ⟨h1, h2⟩ := h
  refine ⟨h1, ?_⟩
  rcases h2 with h2 | ⟨g, cap, cur, hv, hg, hh, r⟩
  · exact .inl h2
  · exact .inr ⟨g, cap, cur, hv, hg, by rw [hk g (by rw [hv]; rfl)]; exact hh, r⟩
theorem owns_lt {w : World} {B : Nat} {e : TypeId} {s : Nat} {v : Value} {n : Nat} {xs : List Value} (h : w.ownsRow B e s v n xs) {g : Nat} (hg : v.ownBlock = some g) : g < w.heap.size := (h.lt g hg).2
theorem owns_set {w : World} {B : Nat} {e : TypeId} {s : Nat} {v : Value} {n : Nat} {xs : List Value} (h : w.ownsRow B e s v n xs) {a : Addr} (ha : v.ownBlock ≠ some a.block) (u : Value) : (w.setCell a u).ownsRow B e s v n xs :=
  owns_keep h fun g hg => Below.heap_setCell _ _ _ _ (fun e => ha (by rw [← e]; exact hg))
/-! ### Behind an append of a new row's cells -/
theorem app_cell {w2 w3 : World} {o : Obj} {u : Value} {a : Addr} {x : Value} (hg : (w2.alloc o).drew.grownBy w3 u.ownBlock) (h : w2.cell? a = some x) (hne : u.ownBlock ≠ some a.block) : w3.cell? a = some x := by
  have hlt := lt_of_cell h
  rw [hg.cell_far a (by show a.block < (w2.alloc o).heap.size; simp; omega) (fun e => hne e.symm)]
  show (w2.alloc o).cell? a = some x
  rw [old_cell hlt]; exact h
theorem app_frozen {w2 w3 : World} {o : Obj} {u : Value} {a : Addr} {x : Value} (hg : (w2.alloc o).drew.grownBy w3 u.ownBlock) (h0 : w2.cell? a = some x) (h : w2.frozen? a = false) (hne : u.ownBlock ≠ some a.block) : w3.frozen? a = false := by
  have hlt := lt_of_cell h0
  rw [hg.frozen_far a (by show a.block < (w2.alloc o).heap.size; simp; omega) (fun e => hne e.symm)]
  show (w2.alloc o).frozen? a = false
  rw [old_frozen hlt]; exact h
theorem app_owns {w2 : World} {o : Obj} {B : Nat} {e : TypeId} {s : Nat} {v : Value} {n : Nat} {xs : List Value} (h : w2.ownsRow B e s v n xs) : (w2.alloc o).drew.ownsRow B e s v n xs :=
  owns_keep h fun g hg => Below.heap_alloc w2 o g (owns_lt h hg)
theorem app_news {w2 : World} {x : Value} {T : TypeId} : ∀ j u, [x][j]? = some u → (w2.alloc (.cells #[x] T)).drew.cell? ((⟨w2.heap.size, 0, none⟩ : Addr).add j) = some u := fun j u hu =>
  World.news_of_block (w := (w2.alloc (.cells #[x] T)).drew) (B := w2.heap.size) (cs := #[x]) (t := T) (fr := (0, 0)) (by
    show (w2.heap.push (.cells #[x] T))[w2.heap.size]? = some (.cells #[x] T (0, 0))
    simp) j u hu
/-- A list that is appended to through a pointer: what holds behind the store. -/
theorem app_store {pb : Nat} {w w2 w3 : World} {o : Obj} {v u : Value} {B g n n' cap : Nat} {xs ys : List Value} {po : Addr} (ht : Turned pb w v w2 u) (hp : po.block = pb) (hpo : w2.cell? po = some u) (hfo : w2.frozen? po = false) (hne : u.ownBlock ≠ some po.block)
    (hu : ∀ k, u.ownBlock = some k → k < w2.heap.size)
    (hown : w3.ownsRow B 3 1 (.slice (some ⟨g, 0, none⟩) n' cap) n' ys) (hg : (w2.alloc o).drew.grownBy w3 u.ownBlock) (hat : u.ownBlock = some g ∨ g = w2.heap.size + 1) :
    (w3.setCell po (.slice (some ⟨g, 0, none⟩) n' cap)).cell? po = some (.slice (some ⟨g, 0, none⟩) n' cap) ∧ (w3.setCell po (.slice (some ⟨g, 0, none⟩) n' cap)).frozen? po = false ∧
    (w3.setCell po (.slice (some ⟨g, 0, none⟩) n' cap)).ownsRow B 3 1 (.slice (some ⟨g, 0, none⟩) n' cap) n' ys ∧ Turned pb w v (w3.setCell po (.slice (some ⟨g, 0, none⟩) n' cap)) (.slice (some ⟨g, 0, none⟩) n' cap) ∧ w2.heap.size < w3.heap.size := by
  have hlt := lt_of_cell hpo
  have hs : w2.heap.size + 1 ≤ w3.heap.size := by
    have := hg.size
    have e : (w2.alloc o).drew.heap.size = w2.heap.size + 1 := by show (w2.alloc o).heap.size = _; simp
    omega
  have hgn : g ≠ po.block := by
    rcases hat with h | h
    · intro e; rw [e] at h; exact hne h
    · omega
  refine ⟨same_cell (app_cell hg hpo hne), ?_, owns_set hown (by simpa [Value.ownBlock] using hgn) _, ?_, by omega⟩
  · rw [World.frozen?_setCell]; exact app_frozen hg hpo hfo hne
  · have h1 : Turned pb w2 u (w2.alloc o) u := (Turned.refl _ _ _).alloc o
    have h2 : Turned pb (w2.alloc o) u w3 (.slice (some ⟨g, 0, none⟩) n' cap) := by
      have h3 : (w2.alloc o).grownBy w3 u.ownBlock := ⟨hg.os, hg.tape, hg.output, hg.size, hg.block⟩
      exact Turned.grown h3 (by rcases hat with h | h; exact .inl h; exact .inr (by simp; omega))
    exact ((ht.trans h1).trans h2).set hp _
end Go.Proofs.Ytfdpnmohpdekiaa.Guard
