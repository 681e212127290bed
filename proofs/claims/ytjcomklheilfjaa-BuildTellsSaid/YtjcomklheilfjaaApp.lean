/- Layer 7: append, onto what the call owns, of whatever reads as so many cells. -/
import Derived.Test.YtjcomklheilfjaaKit
import Derived.Test.YtjcomklheilfjaaSxD5
set_option linter.unusedVariables false
set_option linter.unusedSimpArgs false
namespace Go.Proofs.Ytjcomklheilfjaa.Build
open Go.RowKit Go

theorem wpList_append_any {P : Program} {ops : Array Oper} {rest : List Oper} {o : Oper} {a : Act} {Q : Exit → Act → World → Prop} (w : World) (hgd : o.guard = none) (s x : Operand) (t : TypeId)
    (ho : o.op = .call { callee := .builtin .append, args := #[s, x], argTypes := #[t, t] }) {B : Nat} {e : TypeId} {room sz : Nat} {v y : Value} {n m : Nat} {xs news : List Value} (ht : P.underlying t = some (.slice e)) (hr : Go.Sx.roomOf P e = some room) (hsz : P.cellsOf e = sz)
    (hs : a.eval s = v) (hx : a.eval x = y) (hown : w.ownsRow B e sz v n xs) (hy : Go.Sx.Reads w y m news) (hl : news.length = m * sz) (h1 : ∀ u ∈ news, u.oneCell' = true) (hroom : n + m ≤ room) (hB : B ≤ w.heap.size)
    (h : ∀ va vn vc w', w'.ownsRow B e sz (.slice va vn vc) (n + m) (xs ++ news) → w.grownBy w' v.ownBlock → ((Value.slice va vn vc).ownBlock = v.ownBlock ∨ (Value.slice va vn vc).ownBlock = some w.heap.size) → wpList P ops Q rest (a.put o.dst (.slice va vn vc)) w') : wpList P ops Q (o :: rest) a w :=
  wpList_plain hgd fun _ hK => by
    obtain ⟨sl, w', hrun, h2, h3, h4⟩ := Go.Sx.append_core (ty := o.type) ht hr hsz hown hy hl h1 hroom hB
    unfold Oper.wp execOp
    simp only [ho, resolve, invoke, builtin, Sem.run_bind, Sem.run_pure, Result.andThen_ok, List.map_toArray, List.map_cons, List.map_nil, hs, hx, hrun]
    exact hK _ _ (h _ _ _ _ h2 h3 h4)
theorem room35 : Go.Sx.roomOf Try.prog 35 = some 2513169434916 := by kernel_rfl
theorem cells35 : Try.prog.cellsOf 35 = 3 := by kernel_rfl
theorem room3 : Go.Sx.roomOf Try.prog 3 = some 17592186044416 := by kernel_rfl
theorem cells3 : Try.prog.cellsOf 3 = 1 := by kernel_rfl
theorem room4 : Go.Sx.roomOf Try.prog 4 = some 140737488355328 := by kernel_rfl
theorem cells4 : Try.prog.cellsOf 4 = 1 := by kernel_rfl
theorem reads_blk {w : World} {cs : List Value} {T : TypeId} {arr : Array Value} (H n c : Nat) (hH : w.heap.size = H) (harr : arr = cs.toArray) (hn : n ≤ 100000) : Go.Sx.Reads (w.alloc (.cells arr T)) (.slice (some ⟨H, 0, none⟩) n c) n cs := by
  subst hH
  refine ⟨some ⟨w.heap.size, 0, none⟩, c, rfl, by unfold maxLen; omega, fun h => (by cases h), fun j u hj => ⟨_, rfl, ?_⟩⟩
  have hadd : (⟨w.heap.size, 0, none⟩ : Addr).add j = ⟨w.heap.size, j, none⟩ := by unfold Addr.add; split <;> simp_all
  rw [hadd, (Blk.new w T cs harr).cell]; exact hj
end Go.Proofs.Ytjcomklheilfjaa.Build
