/- Layer 12: what each function does, more. -/
import Derived.Test.YtdbahmcjdojiaaaFns
set_option linter.unusedVariables false
set_option linter.unusedSimpArgs false
set_option maxRecDepth 10000
namespace Go.Proofs.Ytdbahmcjdojiaaa.Fns
open Go.Sx Go.Proofs.Ytdbahmcjdojiaaa.Trees

/-- What two have together. -/
def andOk (a b c d e f g h : Int) : Bool := rightB a b c d && (rightB e f g h && rightB (max a e) (max b f) (min c g) (min d h))
def andL (a b c d e f g h : Int) : List DV := if andOk a b c d e f g h then [.i (max a e), .i (max b f), .i (min c g), .i (min d h)] else [.i 0, .i 0, .i 0, .i 0]
def cAnd (sg : Sig) : Contract := CFn sg (fun | [.i a, .i b, .i c, .i d, .i e, .i f, .i g, .i h] => True | _ => False) (fun | [.i a, .i b, .i c, .i d, .i e, .i f, .i g, .i h] => andL a b c d e f g h | _ => [])

/-- Those that have pixels. -/
def row4 (r : List Int) : List Int := [r.getD 0 0, r.getD 1 0, r.getD 2 0, r.getD 3 0]
def rowRight (r : List Int) : Bool := rightB (r.getD 0 0) (r.getD 1 0) (r.getD 2 0) (r.getD 3 0)
def thoseL (l : List (List Int)) : List (List Int) := (l.filter rowRight).map row4
def cThose (sg : Sig) : Contract := CFn sg (fun | [.l l] => l.length ≤ 1000 | _ => False) (fun | [.l l] => [.l (thoseL l)] | _ => [])

theorem those_len (l : List (List Int)) : (thoseL l).length ≤ l.length := by
  unfold thoseL
  rw [List.length_map]
  exact List.length_filter_le _ _
theorem those_step {l : List (List Int)} {i : Nat} (h : i < l.length) : thoseL (l.take (i + 1)) = if rowRight (l.getD i []) then thoseL (l.take i) ++ [row4 (l.getD i [])] else thoseL (l.take i) := by
  rw [List.take_succ_eq_append_getElem h]
  have e : l.getD i [] = l[i] := by simp [List.getD, List.getElem?_eq_getElem h]
  rw [e]
  unfold thoseL
  rw [List.filter_append, List.map_append]
  split
  · rename_i hr; simp [hr]
  · rename_i hr; simp [hr]

theorem ok8 : ContractOk Try.prog 8 (cAnd sg8) := by
  refine contract_of (Γ := knownOf [(19, cRight sg19)]) (known_cons ok19 rfl known_nil) Try.func8 rfl rfl is8 fun ds hk hp => ?_
  split at hp
  · rename_i a b c d e f g h
    refine h_call (c := cRight sg19) rfl trivial fun rs hk hr => ?_
    have hr : rs = [.b (rightB a b c d)] := hr
    subst hr
    refine h_callg (c := cRight sg19) rfl (fun _ => trivial) fun rs hk hr2 => ?_
    obtain ⟨b2, rfl⟩ := kinds1b hk
    have hr2 : rightB a b c d = true → [DV.b b2] = [DV.b (rightB e f g h)] := hr2
    refine h_ite (fun hc => ?_) (fun hc => ?_)
    · have hc : (!(rightB a b c d) || !b2) = true := hc
      have : andOk a b c d e f g h = false := by
        unfold andOk
        cases hR : rightB a b c d
        · rfl
        · have h2 := hr2 hR
          simp only [List.cons.injEq, DV.b.injEq, and_true] at h2
          rw [hR, h2] at hc
          simp only [Bool.not_true, Bool.false_or, Bool.not_eq_true'] at hc
          simp [hc]
      show _ = andL a b c d e f g h
      unfold andL
      rw [this]
      rfl
    · have hc : (!(rightB a b c d) || !b2) = false := hc
      simp only [Bool.or_eq_false_iff, Bool.not_eq_false'] at hc
      obtain ⟨hR, rfl⟩ := hc
      have h2 := hr2 hR
      simp only [List.cons.injEq, DV.b.injEq, and_true] at h2
      refine h_call (c := cRight sg19) rfl trivial fun rs hk hr => ?_
      have hr : rs = [.b (rightB (max a e) (max b f) (min c g) (min d h))] := hr
      subst hr
      have hok : andOk a b c d e f g h = rightB (max a e) (max b f) (min c g) (min d h) := by unfold andOk; rw [hR, ← h2]; simp
      refine h_ite (fun hc => ?_) (fun hc => ?_)
      · have hc : (!(rightB (max a e) (max b f) (min c g) (min d h))) = true := hc
        rw [Bool.not_eq_true'] at hc
        show _ = andL a b c d e f g h
        unfold andL
        rw [hok, hc]
        rfl
      · have hc : (!(rightB (max a e) (max b f) (min c g) (min d h))) = false := hc
        rw [Bool.not_eq_false'] at hc
        show _ = andL a b c d e f g h
        unfold andL
        rw [hok, hc]
        rfl
  · cases hp

theorem ok9 : ContractOk Try.prog 9 (cAnd sg9) := by
  refine contract_of (Γ := knownOf [(20, cRight sg20)]) (known_cons ok20 rfl known_nil) Try.func9 rfl rfl is9 fun ds hk hp => ?_
  split at hp
  · rename_i a b c d e f g h
    refine h_call (c := cRight sg20) rfl trivial fun rs hk hr => ?_
    have hr : rs = [.b (rightB a b c d)] := hr
    subst hr
    refine h_callg (c := cRight sg20) rfl (fun _ => trivial) fun rs hk hr2 => ?_
    obtain ⟨b2, rfl⟩ := kinds1b hk
    have hr2 : rightB a b c d = true → [DV.b b2] = [DV.b (rightB e f g h)] := hr2
    refine h_ite (fun hc => ?_) (fun hc => ?_)
    · have hc : (!(rightB a b c d) || !b2) = true := hc
      have : andOk a b c d e f g h = false := by
        unfold andOk
        cases hR : rightB a b c d
        · rfl
        · have h2 := hr2 hR
          simp only [List.cons.injEq, DV.b.injEq, and_true] at h2
          rw [hR, h2] at hc
          simp only [Bool.not_true, Bool.false_or, Bool.not_eq_true'] at hc
          simp [hc]
      show _ = andL a b c d e f g h
      unfold andL
      rw [this]
      rfl
    · have hc : (!(rightB a b c d) || !b2) = false := hc
      simp only [Bool.or_eq_false_iff, Bool.not_eq_false'] at hc
      obtain ⟨hR, rfl⟩ := hc
      have h2 := hr2 hR
      simp only [List.cons.injEq, DV.b.injEq, and_true] at h2
      refine h_call (c := cRight sg20) rfl trivial fun rs hk hr => ?_
      have hr : rs = [.b (rightB (max a e) (max b f) (min c g) (min d h))] := hr
      subst hr
      have hok : andOk a b c d e f g h = rightB (max a e) (max b f) (min c g) (min d h) := by unfold andOk; rw [hR, ← h2]; simp
      refine h_ite (fun hc => ?_) (fun hc => ?_)
      · have hc : (!(rightB (max a e) (max b f) (min c g) (min d h))) = true := hc
        rw [Bool.not_eq_true'] at hc
        show _ = andL a b c d e f g h
        unfold andL
        rw [hok, hc]
        rfl
      · have hc : (!(rightB (max a e) (max b f) (min c g) (min d h))) = false := hc
        rw [Bool.not_eq_false'] at hc
        show _ = andL a b c d e f g h
        unfold andL
        rw [hok, hc]
        rfl
  · cases hp

theorem ok23 : ContractOk Try.prog 23 (cThose sg23) := by
  refine contract_of (Γ := knownOf [(19, cRight sg19)]) (known_cons ok19 rfl known_nil) Try.func23 rfl rfl is23 fun ds hk hp => ?_
  split at hp
  · rename_i l
    refine h_loop (fun ds => ∃ i : Nat, ds = [.l (thoseL (l.take i)), .i i] ∧ i ≤ l.length) (fun | [_, .i i] => ((l.length : Int) - i).toNat | _ => 0) ⟨0, by simp [DE.den, IE.den, thoseL], by omega⟩ ?_
    intro ds _ ⟨i, hds, hi⟩
    subst hds
    have hlen : (thoseL (l.take i)).length ≤ l.length := by
      have := those_len (l.take i)
      simp only [List.length_take] at this
      omega
    refine h_ite (fun hc => ?_) (fun hc => ?_)
    · simp only [Env.sets, Env.set, BE.den, IE.den, DV.int, DV.list, Nat.reduceEqDiff, ↓reduceIte, reduceCtorEq, decide_eq_true_eq] at hc
      have hlt : i < l.length := by omega
      refine h_need (by simp only [Env.sets, Env.set, BE.den, IE.den, DV.int, DV.list, Nat.reduceEqDiff, ↓reduceIte, reduceCtorEq, decide_eq_true_eq]; omega) ?_
      refine h_call (c := cRight sg19) rfl trivial fun rs hk hr => ?_
      have hr : rs = [.b (rowRight (l.getD i []))] := hr
      subst hr
      have hst := those_step hlt
      refine h_ite (fun hc2 => ?_) (fun hc2 => ?_)
      · have hc2 : rowRight (l.getD i []) = true := hc2
        rw [if_pos hc2] at hst
        iterate 2 refine h_need (by simp only [Env.sets, Env.set, BE.den, IE.den, DV.int, DV.list, Nat.reduceEqDiff, ↓reduceIte, reduceCtorEq, decide_eq_true_eq]; omega) ?_
        refine h_let (h_need ?_ (h_let (h_need (by simp only [Env.sets, Env.set, BE.den, IE.den, DV.int, DV.list, Nat.reduceEqDiff, ↓reduceIte, reduceCtorEq, Bool.and_eq_true, decide_eq_true_eq]; omega) (h_again ⟨⟨i + 1, ?_, by omega⟩, ?_⟩))))
        · simp only [Env.sets, Env.set, BE.den, IE.den, DV.int, DV.list, LOp.den, List.map_cons, List.map_nil, List.length_cons, List.length_nil, Nat.reduceEqDiff, ↓reduceIte, reduceCtorEq, decide_eq_true_eq]; omega
        · rw [hst]
          simp [Env.sets, Env.set, BE.den, IE.den, DE.den, DV.int, DV.list, LOp.den, cellAt, row4]
        · simp only [Env.sets, Env.set, BE.den, IE.den, DE.den, DV.int, DV.list, List.map_cons, List.map_nil, Nat.reduceEqDiff, ↓reduceIte, reduceCtorEq]
          omega
      · have hc2 : rowRight (l.getD i []) = false := hc2
        rw [if_neg (by rw [hc2]; simp)] at hst
        refine h_need (by simp only [Env.sets, Env.set, BE.den, IE.den, DV.int, DV.list, Nat.reduceEqDiff, ↓reduceIte, reduceCtorEq, Bool.and_eq_true, decide_eq_true_eq]; omega) (h_again ⟨⟨i + 1, ?_, by omega⟩, ?_⟩)
        · rw [hst]
          simp [Env.sets, Env.set, BE.den, IE.den, DE.den, DV.int, DV.list]
        · simp only [Env.sets, Env.set, BE.den, IE.den, DE.den, DV.int, DV.list, List.map_cons, List.map_nil, Nat.reduceEqDiff, ↓reduceIte, reduceCtorEq]
          omega
    · simp only [Env.sets, Env.set, BE.den, IE.den, DV.int, DV.list, Nat.reduceEqDiff, ↓reduceIte, reduceCtorEq, decide_eq_false_iff_not] at hc
      have : i = l.length := by omega
      subst this
      rw [List.take_of_length_le (Nat.le_refl _)]
      simp only [Tree.holds, Env.sets, Env.set, BE.den, IE.den, DE.den, DV.int, DV.list, List.map_cons, List.map_nil, Nat.reduceEqDiff, ↓reduceIte, reduceCtorEq]
  · cases hp

theorem ok24 : ContractOk Try.prog 24 (cThose sg24) := by
  refine contract_of (Γ := knownOf [(20, cRight sg20)]) (known_cons ok20 rfl known_nil) Try.func24 rfl rfl is24 fun ds hk hp => ?_
  split at hp
  · rename_i l
    refine h_loop (fun ds => ∃ i : Nat, ds = [.l (thoseL (l.take i)), .i i] ∧ i ≤ l.length) (fun | [_, .i i] => ((l.length : Int) - i).toNat | _ => 0) ⟨0, by simp [DE.den, IE.den, thoseL], by omega⟩ ?_
    intro ds _ ⟨i, hds, hi⟩
    subst hds
    have hlen : (thoseL (l.take i)).length ≤ l.length := by
      have := those_len (l.take i)
      simp only [List.length_take] at this
      omega
    refine h_ite (fun hc => ?_) (fun hc => ?_)
    · simp only [Env.sets, Env.set, BE.den, IE.den, DV.int, DV.list, Nat.reduceEqDiff, ↓reduceIte, reduceCtorEq, decide_eq_true_eq] at hc
      have hlt : i < l.length := by omega
      refine h_need (by simp only [Env.sets, Env.set, BE.den, IE.den, DV.int, DV.list, Nat.reduceEqDiff, ↓reduceIte, reduceCtorEq, decide_eq_true_eq]; omega) ?_
      refine h_call (c := cRight sg20) rfl trivial fun rs hk hr => ?_
      have hr : rs = [.b (rowRight (l.getD i []))] := hr
      subst hr
      have hst := those_step hlt
      refine h_ite (fun hc2 => ?_) (fun hc2 => ?_)
      · have hc2 : rowRight (l.getD i []) = true := hc2
        rw [if_pos hc2] at hst
        iterate 2 refine h_need (by simp only [Env.sets, Env.set, BE.den, IE.den, DV.int, DV.list, Nat.reduceEqDiff, ↓reduceIte, reduceCtorEq, decide_eq_true_eq]; omega) ?_
        refine h_let (h_need ?_ (h_let (h_need (by simp only [Env.sets, Env.set, BE.den, IE.den, DV.int, DV.list, Nat.reduceEqDiff, ↓reduceIte, reduceCtorEq, Bool.and_eq_true, decide_eq_true_eq]; omega) (h_again ⟨⟨i + 1, ?_, by omega⟩, ?_⟩))))
        · simp only [Env.sets, Env.set, BE.den, IE.den, DV.int, DV.list, LOp.den, List.map_cons, List.map_nil, List.length_cons, List.length_nil, Nat.reduceEqDiff, ↓reduceIte, reduceCtorEq, decide_eq_true_eq]; omega
        · rw [hst]
          simp [Env.sets, Env.set, BE.den, IE.den, DE.den, DV.int, DV.list, LOp.den, cellAt, row4]
        · simp only [Env.sets, Env.set, BE.den, IE.den, DE.den, DV.int, DV.list, List.map_cons, List.map_nil, Nat.reduceEqDiff, ↓reduceIte, reduceCtorEq]
          omega
      · have hc2 : rowRight (l.getD i []) = false := hc2
        rw [if_neg (by rw [hc2]; simp)] at hst
        refine h_need (by simp only [Env.sets, Env.set, BE.den, IE.den, DV.int, DV.list, Nat.reduceEqDiff, ↓reduceIte, reduceCtorEq, Bool.and_eq_true, decide_eq_true_eq]; omega) (h_again ⟨⟨i + 1, ?_, by omega⟩, ?_⟩)
        · rw [hst]
          simp [Env.sets, Env.set, BE.den, IE.den, DE.den, DV.int, DV.list]
        · simp only [Env.sets, Env.set, BE.den, IE.den, DE.den, DV.int, DV.list, List.map_cons, List.map_nil, Nat.reduceEqDiff, ↓reduceIte, reduceCtorEq]
          omega
    · simp only [Env.sets, Env.set, BE.den, IE.den, DV.int, DV.list, Nat.reduceEqDiff, ↓reduceIte, reduceCtorEq, decide_eq_false_iff_not] at hc
      have : i = l.length := by omega
      subst this
      rw [List.take_of_length_le (Nat.le_refl _)]
      simp only [Tree.holds, Env.sets, Env.set, BE.den, IE.den, DE.den, DV.int, DV.list, List.map_cons, List.map_nil, Nat.reduceEqDiff, ↓reduceIte, reduceCtorEq]
  · cases hp

end Go.Proofs.Ytdbahmcjdojiaaa.Fns
