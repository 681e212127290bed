/- The symbolic executor: a function's contract. -/
import Derived.Test.YtjcomklheilfjaaSxF4
set_option linter.unusedVariables false
set_option linter.unusedSimpArgs false
namespace Go.Sx
open Go.RowKit

variable {P : Program}

def env0 : Env := fun _ => .i 0
def ph0 : Ph := ⟨fun _ => 0, fun _ => (none, 0, 0)⟩

theorem start_sat {w : World} {fn : Func} {args : List VT} {vs : List Value} {ds : List DV} (h : ArgsOk w args vs ds) :
    ∃ ph, Sat w (env0.sets 0 ds) ph (start fn args) ⟨vs.toArray ++ Array.replicate (fn.ntmps - vs.length) undef, []⟩ w := by
  obtain ⟨cvs, rfl, hf⟩ := h
  obtain ⟨hl1, hl2⟩ := fitAll_len hf
  have hspec := fresh_spec (env := env0.sets 0 ds) (ph := ph0.setVs 0 cvs) (.c true) (cts args) 0 cvs ds hf (fun i d hd => Env.sets_in hd) (fun i v hv e ks hc => by
    obtain ⟨v', d, hv', hd, hfit⟩ := fitAll_get hf hc
    rw [hv] at hv'
    simp only [Option.some.injEq] at hv'
    subst hv'
    cases d with
    | i n => simp [fit1] at hfit
    | b x => simp [fit1] at hfit
    | l xs =>
      obtain ⟨_, base, cap, rfl, _⟩ := hfit
      exact setVs_val hv)
  obtain ⟨e1, e2⟩ := hspec
  have hden := freshV1s_den (env := env0.sets 0 ds) (ph := ph0.setVs 0 cvs) (.c true) args 0 cvs e1
  rw [← freshV1s_rows] at e2
  have hnm : ∀ i, i < (cts args).length → belowB (cts args).length (0 + i) = true := fun i hi => by simpa [belowB] using hi
  have hall := freshLeaves_all (q := belowB (cts args).length) (.c true) rfl (cts args) 0 hnm
  have hall1 := freshV1s_all (q := belowB (cts args).length) (.c true) rfl args 0 hnm
  have hhas : (start fn args).has = belowB (cts args).length := by rw [has_next rfl]; rfl
  have hlen : (freshV1s (.c true) 0 args).1.length = (mkVals args cvs).length := by rw [← hden, List.length_map]
  refine ⟨ph0.setVs 0 cvs, ⟨⟨?_, fun t s ht => ?_⟩, ⟨?_, ?_, ?_, ?_, ?_⟩, Below.refl _ _, rfl, ⟨fun t s ht => ?_, ?_, ?_⟩⟩⟩
  · simp [start, startV1s, hlen]
  · simp only [start, startV1s] at ht
    rw [List.getElem?_append] at ht
    split at ht
    · rename_i hlt
      rw [List.getElem?_map] at ht
      simp only [Option.map_eq_some_iff, Option.some.injEq] at ht
      obtain ⟨v, hv, rfl⟩ := ht
      have hv' : (mkVals args cvs)[t]? = some (v.den (env0.sets 0 ds) (ph0.setVs 0 cvs)) := by rw [← hden, List.getElem?_map, hv]; rfl
      have hlt' := (List.getElem?_eq_some_iff.1 hv').1
      rw [Array.getElem?_append, if_pos (by simpa using hlt')]
      simp only [List.getElem?_toArray, hv', Slot.den, BE.den, if_true, SV.den]
    · rw [List.getElem?_replicate] at ht
      split at ht <;> cases ht
  · intro b hb; simp [start] at hb
  · intro b hb; simp [start] at hb
  · intro r hr hg
    simp only [start, startV1s, List.mem_map] at hr
    obtain ⟨r0, hr0, rfl⟩ := hr
    obtain ⟨i, _, _, _, h0, hR⟩ := e2 r0 hr0
    exact ⟨h0, hR⟩
  · intro b hb; simp [start] at hb
  · intro r hr r' hr' hne ho
    simp only [start, startV1s, List.mem_map] at hr
    obtain ⟨r0, hr0, rfl⟩ := hr
    cases ho
  · rw [hhas]
    simp only [start, startV1s] at ht
    rw [List.getElem?_append] at ht
    split at ht
    · rw [List.getElem?_map] at ht
      simp only [Option.map_eq_some_iff, Option.some.injEq] at ht
      obtain ⟨v, hv, rfl⟩ := ht
      have : ∀ {vs : List V1} {t : Nat} {v : V1}, v1sAll (belowB (cts args).length) vs = true → vs[t]? = some v → v.all (belowB (cts args).length) = true := by
        intro vs
        induction vs with
        | nil => intro t v _ h; simp at h
        | cons x vs ih =>
          intro t v h hv
          simp only [v1sAll, Bool.and_eq_true] at h
          cases t with
          | zero => simp at hv; subst hv; exact h.1
          | succ t => exact ih h.2 (by simpa using hv)
      simp only [Slot.all, BE.all, SV.all, Bool.true_and]
      exact this hall1 hv
    · rw [List.getElem?_replicate] at ht
      split at ht <;> cases ht
  · intro b hb; simp [start] at hb
  · intro r hr
    rw [hhas]
    simp only [start, startV1s, List.mem_map] at hr
    obtain ⟨r0, hr0, rfl⟩ := hr
    rw [freshV1s_rows] at hr0
    exact hall.2 r0 hr0

theorem callFunc_run {f : FuncId} {fn : Func} {c : Code} (hf : P.funcs[f]? = some fn) (hb : fn.body = some c) (hn : (fn.name == "runtime.NumGoroutine") = false) (w : World) (args : Array Value) : (callFunc f args).run P w = .ok (.enter f args) w := by
  simp only [callFunc, Sem.run_bind]
  simp [hf, hb]
  simpa using hn

/-- **A function's contract**: what its tree says. -/
theorem contract_ok {Γ : Known} {cfg : Cfg} {f : FuncId} {fn : Func} {c : Code} {sg : Sig} {fuel : Nat} {pre : List DV → Prop} {rel : List DV → List DV → Prop} (hΓ : KnownOk P Γ cfg) (hf : P.funcs[f]? = some fn) (hb : fn.body = some c) (hn : (fn.name == "runtime.NumGoroutine") = false)
    {T : Tree} (hT : execFn P cfg fn sg fuel = T) (h : ∀ ds, kinds (cts sg.args) ds = true → pre ds → T.holds Γ (rel ds) (env0.sets 0 ds) (fun _ _ => False)) : ContractOk P f ⟨sg, pre, rel⟩ := by
  subst hT
  refine ⟨callFunc_run hf hb hn, fun w vs ds ha hp cs => ?_⟩
  obtain ⟨ph, hs⟩ := start_sat (fn := fn) ha
  have hk : kinds (cts sg.args) ds = true := by obtain ⟨_, _, hf⟩ := ha; exact fitAll_kinds hf
  have hh := h ds hk hp
  unfold execFn at hh
  rw [hb] at hh
  simp only at hh
  obtain ⟨a', w', todo, ⟨hdf, cvs, rds, e1, e2, e3, e4, e5⟩, hst⟩ := exec_sound (b := { fn := f, tmps := #[], todo := [], defers := [], mode := .run, kind := .normal }) (cs := cs) hΓ hs rfl hh trivial
  refine ⟨.returned (packed (mkVals sg.res cvs)), w', { Frame.at { fn := f, tmps := #[], todo := [], defers := [], mode := .run, kind := .normal } a' todo with mode := .returning }, ⟨cvs, rds, rfl, e2, e3, e4, e5⟩, ?_, ?_, ⟨rfl, hdf, rfl, fn, hf, e1⟩⟩
  · have : Frame.enter P f vs.toArray .normal = Frame.at { fn := f, tmps := #[], todo := [], defers := [], mode := .run, kind := .normal } ⟨vs.toArray ++ Array.replicate (fn.ntmps - vs.length) undef, []⟩ (itemsOf [.code c]) := by
      simp [Frame.enter, Frame.at, hf, hb, itemsOf]
    show Steps P (lone (Frame.enter P f vs.toArray .normal) cs w) _
    rw [this]
    exact hst
  · rfl

end Go.Sx
