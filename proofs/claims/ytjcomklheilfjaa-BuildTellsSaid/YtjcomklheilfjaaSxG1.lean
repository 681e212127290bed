/- The symbolic executor: a tree without what is asked twice; tables of contracts. -/
import Derived.Test.YtjcomklheilfjaaSxF5
set_option linter.unusedVariables false
set_option linter.unusedSimpArgs false
namespace Go.Sx

def knows (ks : List BE) : BE → Bool
  | .and a b => ks.contains (.and a b) || (knows ks a && knows ks b)
  | .or a b => ks.contains (.or a b) || (knows ks a || knows ks b)
  | .c true => true
  | p => ks.contains p

def simpNeed (ks : List BE) : BE → BE
  | .or (.not g) n => if knows ks g then n else .or (.not g) n
  | p => p

def addKnown (p : BE) (ks : List BE) : List BE :=
  match p with
  | .and a b => .and a b :: addKnown a (addKnown b ks)
  | p => p :: ks

def prune (ks : List BE) : Tree → Tree
  | .ret vs => .ret vs
  | .stuck s => .stuck s
  | .ev (.need p) t => if knows ks (simpNeed ks p) then prune ks t else .ev (.need (simpNeed ks p)) (prune (addKnown (simpNeed ks p) ks) t)
  | .ev e t => .ev e (prune [] t)
  | .ite c a b => .ite c (prune (addKnown c ks) a) (prune ((BE.not c).mk :: ks) b)
  | .loop id es kd base body => .loop id es kd base (prune [] body)
  | .again id vs => .again id vs

theorem knows_den {env : Env} {ks : List BE} (h : ∀ k ∈ ks, k.den env = true) : ∀ {p : BE}, knows ks p = true → p.den env = true := by
  have hc : ∀ p, ks.contains p = true → p.den env = true := fun p hp => h p (by simpa using hp)
  intro p
  induction p with
  | and a b iha ihb =>
    intro hp
    simp only [knows, Bool.or_eq_true, Bool.and_eq_true] at hp
    rcases hp with hp | ⟨h1, h2⟩
    · exact hc _ hp
    · simp [BE.den, iha h1, ihb h2]
  | or a b iha ihb =>
    intro hp
    simp only [knows, Bool.or_eq_true] at hp
    rcases hp with hp | h1 | h2
    · exact hc _ hp
    · simp [BE.den, iha h1]
    · simp [BE.den, ihb h2]
  | c b =>
    intro hp
    cases b with
    | true => rfl
    | false => exact hc _ (by simpa [knows] using hp)
  | _ => intro hp; exact hc _ (by simpa [knows] using hp)

theorem simpNeed_den {env : Env} {ks : List BE} (h : ∀ k ∈ ks, k.den env = true) {p : BE} : (simpNeed ks p).den env = p.den env := by
  unfold simpNeed
  split
  · rename_i g n
    split
    · rename_i hg
      simp [BE.den, knows_den h hg]
    · rfl
  · rfl

theorem addKnown_den {env : Env} {p : BE} : ∀ {ks : List BE}, (∀ k ∈ ks, k.den env = true) → p.den env = true → ∀ k ∈ addKnown p ks, k.den env = true := by
  induction p with
  | and a b iha ihb =>
    intro ks h hp k hk
    simp only [addKnown, List.mem_cons] at hk
    have hp' := hp
    simp only [BE.den, Bool.and_eq_true] at hp'
    rcases hk with rfl | hk
    · exact hp
    · exact iha (ihb h hp'.2) hp'.1 k hk
  | _ =>
    intro ks h hp k hk
    simp only [addKnown, List.mem_cons] at hk
    rcases hk with rfl | hk
    · exact hp
    · exact h k hk

theorem prune_holds {Γ : Known} {R : List DV → Prop} : ∀ {t : Tree} {ks : List BE} {env : Env} {F : Nat → List DV → Prop}, (∀ k ∈ ks, k.den env = true) → (prune ks t).holds Γ R env F → t.holds Γ R env F := by
  intro t
  induction t with
  | ret vs => intro ks env F _ h; exact h
  | stuck s => intro ks env F _ h; exact h
  | again id vs => intro ks env F _ h; exact h
  | ev e t ih =>
    intro ks env F hk h
    cases e with
    | need p =>
      simp only [prune] at h
      split at h
      · rename_i hkn
        exact ⟨by rw [← simpNeed_den hk]; exact knows_den hk hkn, ih hk h⟩
      · obtain ⟨h1, h2⟩ := h
        exact ⟨by rw [← simpNeed_den hk]; exact h1, ih (addKnown_den hk h1) h2⟩
    | call f g args res base =>
      obtain ⟨c, h1, h2, h3⟩ := h
      exact ⟨c, h1, h2, fun rs a b => ih (fun k hk => by simp at hk) (h3 rs a b)⟩
    | letl id op => exact ih (ks := []) (fun k hk => by simp at hk) h
  | ite c a b iha ihb =>
    intro ks env F hk h
    refine ⟨fun hc => iha (addKnown_den hk hc) (h.1 hc), fun hc => ihb ?_ (h.2 hc)⟩
    intro k hk'
    rcases List.mem_cons.1 hk' with rfl | hk'
    · rw [BE.den_mk]; simp [BE.den, hc]
    · exact hk k hk'
  | loop id es kd base body ih =>
    intro ks env F hk h
    obtain ⟨inv, meas, h1, h2⟩ := h
    exact ⟨inv, meas, h1, fun ds hd hi => ih (fun k hk => by simp at hk) (h2 ds hd hi)⟩

variable {P : Program}

/-- A function's contract, from its tree, written out. -/
theorem contract_of {Γ : Known} {cfg : Cfg} {f : FuncId} {fn : Func} {c : Code} {sg : Sig} {fuel : Nat} {pre : List DV → Prop} {rel : List DV → List DV → Prop} (hΓ : KnownOk P Γ cfg) (hf : P.funcs[f]? = some fn) (hb : fn.body = some c) (hn : (fn.name == "runtime.NumGoroutine") = false)
    {T : Tree} (hT : prune [] (execFn P cfg fn sg fuel) = T) (h : ∀ ds, kinds (cts sg.args) ds = true → pre ds → T.holds Γ (rel ds) (env0.sets 0 ds) (fun _ _ => False)) : ContractOk P f ⟨sg, pre, rel⟩ :=
  contract_ok hΓ hf hb hn rfl fun ds hk hp => prune_holds (ks := []) (fun k hk => by simp at hk) (by rw [hT]; exact h ds hk hp)

/-- What is known, as a list. -/
def knownOf : List (FuncId × Contract) → Known
  | [] => fun _ => none
  | (g, c) :: rest => fun f => if f = g then some c else knownOf rest f
def sigsOf (l : List (FuncId × Sig)) : FuncId → Option Sig := fun f => (l.find? fun p => p.1 == f).map (·.2)

theorem known_nil {cfg : Cfg} : KnownOk P (knownOf []) cfg := fun f c h => by cases h
theorem known_cons {cfg : Cfg} {g : FuncId} {c : Contract} {l : List (FuncId × Contract)} (h : ContractOk P g c) (hs : cfg.sig g = some c.sig) (hl : KnownOk P (knownOf l) cfg) : KnownOk P (knownOf ((g, c) :: l)) cfg := by
  intro f c' hf
  simp only [knownOf] at hf
  split at hf
  · rename_i e
    subst e
    simp only [Option.some.injEq] at hf
    subst hf
    exact ⟨h, hs⟩
  · exact hl f c' hf

end Go.Sx
