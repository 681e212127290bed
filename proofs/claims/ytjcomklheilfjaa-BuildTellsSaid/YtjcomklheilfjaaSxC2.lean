/- The symbolic executor: operations on two numbers. -/
import Derived.Test.YtjcomklheilfjaaSxC1
set_option linter.unusedVariables false
set_option linter.unusedSimpArgs false
namespace Go.Sx
open Go.RowKit

variable {env : Env} {ph : Ph} {P : Program} {w : World}

theorem run_shl (k yk : IntKind) (x y : Int) (t : TypeId) (h0 : 0 ≤ y) (h1 : y ≤ k.bits) : (binOp .shl t (.int k x) (.int yk y)).run P w = .ok (.int k (k.wrap (x * 2 ^ y.toNat))) w := by
  rw [binOp_shl, shift_shl k yk x y h0 h1]; rfl
theorem run_shr (k yk : IntKind) (x y : Int) (t : TypeId) (h0 : 0 ≤ y) (h1 : y ≤ k.bits) : (binOp .shr t (.int k x) (.int yk y)).run P w = .ok (.int k (x / 2 ^ y.toNat)) w := by
  rw [binOp_shr, shift_shr k yk x y h0 h1]; rfl
theorem run_quo (k : IntKind) (x y : Int) (t : TypeId) (h : y ≠ 0) : (binOp .quo t (.int k x) (.int k y)).run P w = .ok (.int k (k.wrap (x.tdiv y))) w := by
  rw [binOp_quo]; simp [Op.intDiv, h]
theorem run_rem (k : IntKind) (x y : Int) (t : TypeId) (h : y ≠ 0) : (binOp .rem t (.int k x) (.int k y)).run P w = .ok (.int k (x.tmod y)) w := by
  rw [binOp_rem]; simp [Op.intDiv, h]

theorem ne0_den {e : IE} (h : ((BE.ne0 e).mk).den env = true) : e.den env ≠ 0 := by
  rw [BE.den_mk] at h; simpa [BE.den] using h
theorem le_den {a b : IE} (h : ((BE.le a b).mk).den env = true) : a.den env ≤ b.den env := by
  rw [BE.den_mk] at h; simpa [BE.den] using h
theorem lt_den {a b : IE} (h : ((BE.lt a b).mk).den env = true) : a.den env < b.den env := by
  rw [BE.den_mk] at h; simpa [BE.den] using h

theorem binQ_run {wr : Bool} {op : BinOp} {l1 l2 l : Leaf} {ns : List BE} (t : TypeId) (x y : Operand) (h : binQ wr op l1 l2 = some (ns, l)) (hn : ∀ n ∈ ns, n.den env = true) :
    (do eqGuard op t x y (l1.den env ph) (l2.den env ph); binOp op t (l1.den env ph) (l2.den env ph) : Sem Value).run P w = .ok (l.den env ph) w := by
  have go : ∀ (k : IntKind) (a : IE) (v : Value), (binOp op t (.int k (a.den env)) (l2.den env ph)).run P w = .ok v w → l1 = .i k a → v = l.den env ph →
      (do eqGuard op t x y (l1.den env ph) (l2.den env ph); binOp op t (l1.den env ph) (l2.den env ph) : Sem Value).run P w = .ok (l.den env ph) w := by
    intro k a v hr hl hv
    subst hl
    rw [← hv, ← hr]
    show Sem.run P (do eqGuard op t x y (.int k (a.den env)) (l2.den env ph); binOp op t (.int k (a.den env)) (l2.den env ph)) w = _
    rw [eqGuard_at_int]
    rfl
  unfold binQ at h
  split at h
  -- shl by a constant
  · rename_i k a _ n
    split at h
    · rename_i hc
      obtain ⟨h0, h1, h2⟩ := hc
      simp only [Option.some.injEq] at h
      have h' : arith wr k (.mul a (.c ((2 ^ n.toNat : Nat) : Int))) = (ns, l) := h
      have := arith_den (env := env) (ph := ph) (wr := wr) (k := k) (e := .mul a (.c ((2 ^ n.toNat : Nat) : Int))) (by rw [h']; exact hn)
      rw [h'] at this
      refine go k a _ (run_shl k _ _ n t h0 h2) rfl ?_
      rw [this]
      simp [IE.den]
    · cases h
  · rename_i k a _ b _
    simp only [Option.some.injEq, Prod.mk.injEq] at h
    obtain ⟨rfl, rfl⟩ := h
    have h0 := le_den (hn _ (List.mem_cons_self ..))
    have h1 := le_den (hn _ (List.mem_cons_of_mem _ (List.mem_cons_self ..)))
    have := arith_den (env := env) (ph := ph) (wr := wr) (k := k) (e := .shl a b) (fun n hm => hn n (List.mem_cons_of_mem _ (List.mem_cons_of_mem _ hm)))
    exact go k a _ (run_shl k _ _ _ t h0 h1) rfl this.symm
  · rename_i k a _ n
    split at h
    · rename_i hc
      obtain ⟨h0, h1, h2⟩ := hc
      simp only [Option.some.injEq, Prod.mk.injEq] at h
      obtain ⟨rfl, rfl⟩ := h
      refine go k a _ (run_shr k _ _ n t h0 h2) rfl ?_
      simp only [Leaf.den, IE.den_mk]
      simp [IE.den]
    · cases h
  · rename_i k a _ b _
    simp only [Option.some.injEq, Prod.mk.injEq] at h
    obtain ⟨rfl, rfl⟩ := h
    have h0 := le_den (hn _ (List.mem_cons_self ..))
    have h1 := le_den (hn _ (List.mem_cons_of_mem _ (List.mem_cons_self ..)))
    refine go k a _ (run_shr k _ _ _ t h0 h1) rfl ?_
    simp only [Leaf.den, IE.den_mk]
    simp [IE.den]
  -- add, sub, mul
  · rename_i k a k' b
    split at h
    · rename_i hk; subst hk
      simp only [Option.some.injEq] at h
      have h' : arith wr k (.add a b) = (ns, l) := h
      have := arith_den (env := env) (ph := ph) (wr := wr) (k := k) (e := .add a b) (by rw [h']; exact hn)
      rw [h'] at this
      exact go k a _ (by simp [Leaf.den, binOp_add, Op.intArith]; rfl) rfl this.symm
    · cases h
  · rename_i k a k' b
    split at h
    · rename_i hk; subst hk
      simp only [Option.some.injEq] at h
      have h' : arith wr k (.sub a b) = (ns, l) := h
      have := arith_den (env := env) (ph := ph) (wr := wr) (k := k) (e := .sub a b) (by rw [h']; exact hn)
      rw [h'] at this
      exact go k a _ (by simp [Leaf.den, binOp_sub, Op.intArith]; rfl) rfl this.symm
    · cases h
  · rename_i k a k' b
    split at h
    · rename_i hk; subst hk
      simp only [Option.some.injEq] at h
      have h' : arith wr k (.mul a b) = (ns, l) := h
      have := arith_den (env := env) (ph := ph) (wr := wr) (k := k) (e := .mul a b) (by rw [h']; exact hn)
      rw [h'] at this
      exact go k a _ (by simp [Leaf.den, binOp_mul, Op.intArith]; rfl) rfl this.symm
    · cases h
  -- quo, rem
  · rename_i k a k' b
    split at h
    · rename_i hk; subst hk
      simp only [Option.some.injEq, Prod.mk.injEq] at h
      obtain ⟨rfl, rfl⟩ := h
      have h0 := ne0_den (hn _ (List.mem_cons_self ..))
      have := arith_den (env := env) (ph := ph) (wr := wr) (k := k) (e := .tdiv a b) (fun n hm => hn n (List.mem_cons_of_mem _ hm))
      exact go k a _ (run_quo k _ _ t h0) rfl this.symm
    · cases h
  · rename_i k a k' b
    split at h
    · rename_i hk; subst hk
      simp only [Option.some.injEq, Prod.mk.injEq] at h
      obtain ⟨rfl, rfl⟩ := h
      have h0 := ne0_den (hn _ (List.mem_cons_self ..))
      refine go k a _ (run_rem k _ _ t h0) rfl ?_
      simp only [Leaf.den, IE.den_mk]
      simp [IE.den]
    · cases h
  -- and by a constant
  · rename_i k a k' n
    split at h
    · rename_i hk; subst hk
      have hand : ∀ (k : IntKind) (a b : Int), (binOp .and t (.int k a) (.int k b)).run P w = .ok (.int k (Go.bits .and k a b)) w := fun k a b => by rw [binOp_and, intBits_and]; rfl
      split at h
      · rename_i m hm
        simp only [Option.some.injEq, Prod.mk.injEq] at h
        obtain ⟨rfl, rfl⟩ := h
        obtain ⟨hm1, hm2⟩ := maskOf_spec hm
        refine go _ a _ (hand _ _ _) rfl ?_
        rw [hm2]
        simp only [IE.den]
        rw [and_mask _ (.inl rfl) _ m (by omega)]
        simp only [Leaf.den, IE.den_mk]
        simp [IE.den]
      · rename_i m hm
        simp only [Option.some.injEq, Prod.mk.injEq] at h
        obtain ⟨rfl, rfl⟩ := h
        obtain ⟨hm1, hm2⟩ := maskOf_spec hm
        refine go _ a _ (hand _ _ _) rfl ?_
        rw [hm2]
        simp only [IE.den]
        rw [and_mask _ (.inr rfl) _ m (by omega)]
        simp only [Leaf.den, IE.den_mk]
        simp [IE.den]
      · simp only [Option.some.injEq, Prod.mk.injEq] at h
        obtain ⟨rfl, rfl⟩ := h
        refine go _ a _ (hand _ _ _) rfl ?_
        simp only [Leaf.den, IE.den_mk]
        simp [IE.den]
    · cases h
  -- and, or, xor
  · rename_i k a k' b _
    split at h
    · rename_i hk; subst hk
      simp only [Option.some.injEq, Prod.mk.injEq] at h
      obtain ⟨rfl, rfl⟩ := h
      refine go k a (.int k (Go.bits .and k (a.den env) (b.den env))) (by simp only [Leaf.den, binOp_and, intBits_and]; rfl) rfl ?_
      simp only [Leaf.den, IE.den_mk]; rfl
    · cases h
  · rename_i k a k' b
    split at h
    · rename_i hk; subst hk
      simp only [Option.some.injEq, Prod.mk.injEq] at h
      obtain ⟨rfl, rfl⟩ := h
      refine go k a (.int k (Go.bits .or k (a.den env) (b.den env))) (by simp only [Leaf.den, binOp_or, intBits_or]; rfl) rfl ?_
      simp only [Leaf.den, IE.den_mk]; rfl
    · cases h
  · rename_i k a k' b
    split at h
    · rename_i hk; subst hk
      simp only [Option.some.injEq, Prod.mk.injEq] at h
      obtain ⟨rfl, rfl⟩ := h
      refine go k a (.int k (Go.bits .xor k (a.den env) (b.den env))) (by simp only [Leaf.den, binOp_xor, intBits_xor]; rfl) rfl ?_
      simp only [Leaf.den, IE.den_mk]; rfl
    · cases h
  -- comparisons
  all_goals first
    | cases h; done
    | (rename_i k a k' b
       split at h
       · rename_i hk; subst hk
         simp only [Option.some.injEq, Prod.mk.injEq] at h
         obtain ⟨rfl, rfl⟩ := h
         refine go k a (.bool _) (by simp only [Leaf.den, binOp_lss, binOp_leq, binOp_gtr, binOp_geq, binOp_eql, binOp_neq]; rfl) rfl ?_
         simp only [Leaf.den, BE.den_mk, BE.den]
         try first | rfl | (rw [Bool.eq_iff_iff]; simp; done) | (simp [bne]; rw [Bool.eq_iff_iff]; simp; done)
       · cases h)

end Go.Sx
