/- The symbolic executor: its expressions mean what they say. -/
import Derived.Test.YtjcomklheilfjaaSxDefs
set_option linter.unusedVariables false
namespace Go.Sx

theorem IE.den_mk (env : Env) (e : IE) : e.mk.den env = e.den env := by
  unfold IE.mk
  split <;> simp [IE.den]
  split <;> simp_all

theorem BE.den_mk (env : Env) (e : BE) : e.mk.den env = e.den env := by
  unfold BE.mk
  split <;> simp only [BE.den, IE.den, Bool.not_not, Bool.true_and, Bool.false_and, Bool.and_true, Bool.or_false, Bool.false_or, Bool.true_or]
  all_goals first | rfl | (generalize BE.den env _ = y; cases y <;> rfl)

theorem BE.says_den {env : Env} {G g : BE} (h : G.says g = true) (hG : G.den env = true) : g.den env = true := by
  induction G with
  | and x y ihx ihy =>
    unfold BE.says at h
    simp only [BE.den, Bool.and_eq_true] at hG
    simp only [Bool.or_eq_true, decide_eq_true_eq] at h
    rcases h with (rfl | rfl) | (h | h)
    · rfl
    · simp [BE.den, hG]
    · exact ihx h hG.1
    · exact ihy h hG.2
  | _ =>
    unfold BE.says at h
    simp only [Bool.or_eq_true, decide_eq_true_eq] at h
    rcases h with (rfl | rfl) | h
    · rfl
    · exact hG
    · cases h

theorem BE.under_den {env : Env} {G n : BE} (hG : G.den env = true) (h : (BE.under G n).den env = true) : n.den env = true := by
  unfold BE.under at h
  split at h
  · exact h
  · simpa [BE.den, hG] using h

theorem inR_den {env : Env} {k : IntKind} {e : IE} (h : (inR k e).den env = true) : k.min ≤ e.den env ∧ e.den env ≤ k.max := by
  unfold inR at h
  split at h
  all_goals
    simp only [BE.den, IE.den, Bool.and_eq_true, decide_eq_true_eq] at h ⊢
    first | exact h | exact ⟨of_decide_eq_true h.1, of_decide_eq_true h.2⟩

theorem IE.den_congr {p : Nat → Bool} {env env' : Env} (h : ∀ k, p k = true → env k = env' k) : ∀ {e : IE}, e.all p = true → e.den env = e.den env' := by
  intro e
  induction e with
  | v k => intro ha; simp only [IE.all] at ha; simp [IE.den, h k ha]
  | c n => intro _; rfl
  | len k => intro ha; simp only [IE.all] at ha; simp [IE.den, h k ha]
  | get k i j ih => intro ha; simp only [IE.all, Bool.and_eq_true] at ha; simp [IE.den, h k ha.1, ih ha.2]
  | ifeq i n a b ih1 ih2 ih3 => intro ha; simp only [IE.all, Bool.and_eq_true] at ha; simp [IE.den, ih1 ha.1, ih2 ha.2.1, ih3 ha.2.2]
  | ediv a n ih => intro ha; simp only [IE.all] at ha; simp [IE.den, ih ha]
  | emod a n ih => intro ha; simp only [IE.all] at ha; simp [IE.den, ih ha]
  | wrap k a ih => intro ha; simp only [IE.all] at ha; simp [IE.den, ih ha]
  | bits op k a b ih1 ih2 => intro ha; simp only [IE.all, Bool.and_eq_true] at ha; simp [IE.den, ih1 ha.1, ih2 ha.2]
  | _ a b ih1 ih2 => intro ha; simp only [IE.all, Bool.and_eq_true] at ha; simp [IE.den, ih1 ha.1, ih2 ha.2]

theorem BE.den_congr {p : Nat → Bool} {env env' : Env} (h : ∀ k, p k = true → env k = env' k) : ∀ {e : BE}, e.all p = true → e.den env = e.den env' := by
  intro e
  induction e with
  | v k => intro ha; simp only [BE.all] at ha; simp [BE.den, h k ha]
  | c n => intro _; rfl
  | not a ih => intro ha; simp only [BE.all] at ha; simp [BE.den, ih ha]
  | ne0 a => intro ha; simp only [BE.all] at ha; simp [BE.den, IE.den_congr h ha]
  | and a b ih1 ih2 => intro ha; simp only [BE.all, Bool.and_eq_true] at ha; simp [BE.den, ih1 ha.1, ih2 ha.2]
  | or a b ih1 ih2 => intro ha; simp only [BE.all, Bool.and_eq_true] at ha; simp [BE.den, ih1 ha.1, ih2 ha.2]
  | iff a b ih1 ih2 => intro ha; simp only [BE.all, Bool.and_eq_true] at ha; simp [BE.den, ih1 ha.1, ih2 ha.2]
  | lt a b => intro ha; simp only [BE.all, Bool.and_eq_true] at ha; simp [BE.den, IE.den_congr h ha.1, IE.den_congr h ha.2]
  | le a b => intro ha; simp only [BE.all, Bool.and_eq_true] at ha; simp [BE.den, IE.den_congr h ha.1, IE.den_congr h ha.2]
  | eq a b => intro ha; simp only [BE.all, Bool.and_eq_true] at ha; simp [BE.den, IE.den_congr h ha.1, IE.den_congr h ha.2]

structure Agree (p : Nat → Bool) (env env' : Env) (ph ph' : Ph) : Prop where
  e : ∀ k, p k = true → env k = env' k
  r : ∀ k, p k = true → ph.r k = ph'.r k
  v : ∀ k, p k = true → ph.v k = ph'.v k

variable {p : Nat → Bool} {env env' : Env} {ph ph' : Ph}

theorem Leaf.den_congr (h : Agree p env env' ph ph') : ∀ {l : Leaf}, l.all p = true → l.den env ph = l.den env' ph' := by
  intro l ha
  cases l with
  | i k e => simp only [Leaf.all] at ha; simp [Leaf.den, IE.den_congr h.e ha]
  | b e => simp only [Leaf.all] at ha; simp [Leaf.den, BE.den_congr h.e ha]
  | p id off => simp only [Leaf.all] at ha; simp [Leaf.den, h.r _ ha]
  | ep row sz x j => simp only [Leaf.all, Bool.and_eq_true] at ha; simp [Leaf.den, h.v _ ha.1, IE.den_congr h.e ha.2]
  | pi id off sz n x => simp only [Leaf.all, Bool.and_eq_true] at ha; simp [Leaf.den, h.r _ ha.1, IE.den_congr h.e ha.2]
  | s row => simp only [Leaf.all] at ha; simp [Leaf.den, Ph.val, h.v _ ha]
  | nils => rfl
  | f g => rfl
  | fn g caps =>
    simp only [Leaf.all, List.all_eq_true] at ha
    simp only [Leaf.den]
    congr 2
    exact List.map_congr_left fun c hc => by
      unfold capDen
      rw [h.r _ (ha c hc), h.v _ (ha c hc)]

theorem leaves_congr (h : Agree p env env' ph ph') : ∀ {ls : List Leaf}, leavesAll p ls = true → ls.map (Leaf.den env ph) = ls.map (Leaf.den env' ph') := by
  intro ls
  induction ls with
  | nil => intro _; rfl
  | cons l ls ih =>
    intro ha
    simp only [leavesAll, Bool.and_eq_true] at ha
    simp only [List.map_cons, Leaf.den_congr h ha.1, ih ha.2]

theorem V1.den_congr (h : Agree p env env' ph ph') : ∀ {x : V1}, x.all p = true → x.den env ph = x.den env' ph' := by
  intro x ha
  cases x with
  | one l => exact Leaf.den_congr h ha
  | agg ls => simp only [V1.all] at ha; simp only [V1.den, leaves_congr h ha]

theorem v1s_congr (h : Agree p env env' ph ph') : ∀ {xs : List V1}, v1sAll p xs = true → xs.map (V1.den env ph) = xs.map (V1.den env' ph') := by
  intro ls
  induction ls with
  | nil => intro _; rfl
  | cons l ls ih =>
    intro ha
    simp only [v1sAll, Bool.and_eq_true] at ha
    simp only [List.map_cons, V1.den_congr h ha.1, ih ha.2]

theorem SV.den_congr (h : Agree p env env' ph ph') : ∀ {x : SV}, x.all p = true → x.den env ph = x.den env' ph' := by
  intro x ha
  cases x with
  | v x => exact V1.den_congr h ha
  | tup xs => simp only [SV.all] at ha; simp only [SV.den, v1s_congr h ha]

theorem Slot.den_congr (h : Agree p env env' ph ph') {s : Slot} (ha : s.all p = true) : s.den env ph = s.den env' ph' := by
  simp only [Slot.all, Bool.and_eq_true] at ha
  simp only [Slot.den, BE.den_congr h.e ha.1, SV.den_congr h ha.2]

end Go.Sx
