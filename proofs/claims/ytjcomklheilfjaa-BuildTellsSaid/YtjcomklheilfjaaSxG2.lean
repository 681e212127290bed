/- The symbolic executor: the moves of a proof about a tree. -/
import Derived.Test.YtjcomklheilfjaaSxG1
set_option linter.unusedVariables false
set_option linter.unusedSimpArgs false
namespace Go.Sx

/-- A contract that names the results as a function of the arguments. -/
abbrev CFn (sg : Sig) (pre : List DV → Prop) (F : List DV → List DV) : Contract := ⟨sg, pre, fun ds rs => rs = F ds⟩

variable {Γ : Known} {R : List DV → Prop} {env : Env} {F : Nat → List DV → Prop} {t t' : Tree}

theorem h_need {p : BE} (h : p.den env = true) (ht : t.holds Γ R env F) : (Tree.ev (.need p) t).holds Γ R env F := ⟨h, ht⟩
theorem h_let {id : Nat} {op : LOp} (ht : t.holds Γ R (env.set id (.l (op.den env))) F) : (Tree.ev (.letl id op) t).holds Γ R env F := ht
theorem h_call {f : FuncId} {args : List DE} {res : List VT} {base : Nat} {c : Contract} (hc : Γ f = some c) (hp : c.pre (args.map (DE.den env)))
    (ht : ∀ rs, kinds (cts res) rs = true → c.rel (args.map (DE.den env)) rs → t.holds Γ R (env.sets base rs) F) : (Tree.ev (.call f (.c true) args res base) t).holds Γ R env F :=
  ⟨c, hc, fun _ => hp, fun rs hk hr => ht rs hk (hr rfl)⟩
theorem h_callg {f : FuncId} {g : BE} {args : List DE} {res : List VT} {base : Nat} {c : Contract} (hc : Γ f = some c) (hp : g.den env = true → c.pre (args.map (DE.den env)))
    (ht : ∀ rs, kinds (cts res) rs = true → (g.den env = true → c.rel (args.map (DE.den env)) rs) → t.holds Γ R (env.sets base rs) F) : (Tree.ev (.call f g args res base) t).holds Γ R env F :=
  ⟨c, hc, hp, ht⟩
/-- The same where the guard says yes. -/
theorem h_cally {f : FuncId} {g : BE} {args : List DE} {res : List VT} {base : Nat} {c : Contract} (hc : Γ f = some c) (hg : g.den env = true) (hp : c.pre (args.map (DE.den env)))
    (ht : ∀ rs, kinds (cts res) rs = true → c.rel (args.map (DE.den env)) rs → t.holds Γ R (env.sets base rs) F) : (Tree.ev (.call f g args res base) t).holds Γ R env F :=
  ⟨c, hc, fun _ => hp, fun rs hk hr => ht rs hk (hr hg)⟩
theorem h_ite {c : BE} (h1 : c.den env = true → t.holds Γ R env F) (h2 : c.den env = false → t'.holds Γ R env F) : (Tree.ite c t t').holds Γ R env F := ⟨h1, h2⟩
theorem h_loop {id : Nat} {entry : List DE} {ks : List CT} {base : Nat} {body : Tree} (inv : List DV → Prop) (meas : List DV → Nat) (h0 : inv (entry.map (DE.den env)))
    (hb : ∀ ds, kinds ks ds = true → inv ds → body.holds Γ R (env.sets base ds) (upF F id (fun vs => inv vs ∧ meas vs < meas ds))) : (Tree.loop id entry ks base body).holds Γ R env F := ⟨inv, meas, h0, hb⟩
theorem h_again {id : Nat} {vals : List DE} {G : List DV → Prop} (h : G (vals.map (DE.den env))) : (Tree.again id vals).holds Γ R env (upF F id G) := by
  simpa [Tree.holds, upF] using h

/-! ### Data of a kind -/
theorem kinds1i {k : IntKind} {ds : List DV} (h : kinds [.c (.i k)] ds = true) : ∃ n, ds = [.i n] := by
  match ds, h with
  | [.i n], _ => exact ⟨n, rfl⟩
theorem kinds1b {ds : List DV} (h : kinds [.c .b] ds = true) : ∃ n, ds = [.b n] := by
  match ds, h with
  | [.b n], _ => exact ⟨n, rfl⟩

end Go.Sx
