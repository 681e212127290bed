/- Layer 3: play, walked. -/
import Derived.Test.YtfdpnmohpdekiaaPlayKit
import Derived.Test.YtfdpnmohpdekiaaEach
import Derived.Test.YtfdpnmohpdekiaaTryPlay
import Derived.Deep.AppendLies
import Derived.Deep.RegionLaw
import Derived.BigRegion
import Derived.Deep.Cut
import Derived.Deep.CutRange
set_option linter.unusedVariables false
set_option linter.unusedSimpArgs false
namespace Go.Proofs.Ytfdpnmohpdekiaa.Guard
open Go.RowKit Go

theorem info3 : (Try.prog.info? 3).map (fun i => (i.zero, i.size, i.bytes)) = some (some (.int .i64 0), 1, 8) := by kernel_rfl
/-- The cells of a list of acts. -/
def ActCells (w : World) (base : Addr) (l : List (List Int)) : Prop := ∀ i, i < l.length → ∀ c, c < 3 → w.cell? (base.add (i * 3 + c)) = some (.int .i64 ((l.getD i []).getD c 0))
def PlayOk (l : List (List Int)) : Prop := ∀ (base : Addr) (cap : Nat) (po : Addr) (v : Value) (B : Nat) (acc : List Int) (w : World), l.length ≤ cap → acc.length + l.length ≤ 1000 → ActCells w base l → base.block ≠ po.block → v.ownBlock ≠ some base.block →
  w.cell? po = some v → w.frozen? po = false → w.ownsRow B 3 1 v acc.length (ints acc) → B ≤ w.heap.size → v.ownBlock ≠ some po.block →
  Calls Try.prog 9 #[.slice (some base) l.length cap, .pointer (some po)] w fun e w' => e = endOf (plays l).2 ∧ After po v B acc w (plays l) w'

theorem add_next (base : Addr) (n c : Nat) (hc : 0 < c) : ({ block := (base.add n).block, off := (base.add n).off + c } : Addr) = base.add (n + c) := by
  unfold Addr.add
  rw [if_neg (show ¬ n + c = 0 by omega)]
  split
  · subst_vars; simp
  · simp only [Addr.mk.injEq]; refine ⟨trivial, by omega, trivial⟩
theorem act_cells {w : World} {base : Addr} {l : List (List Int)} (h : ActCells w base l) {k : Nat} (hk : k < l.length) : ∃ K N I : Int, Hid (K = (l.getD k []).getD 0 0 ∧ N = (l.getD k []).getD 1 0 ∧ I = (l.getD k []).getD 2 0) ∧
    w.cell? (base.add (k * 3)) = some (.int .i64 K) ∧ w.cell? { block := (base.add (k * 3)).block, off := (base.add (k * 3)).off + 1 } = some (.int .i64 N) ∧ w.cell? { block := (base.add (k * 3)).block, off := (base.add (k * 3)).off + 2 } = some (.int .i64 I) := by
  refine ⟨_, _, _, ⟨rfl, rfl, rfl⟩, h k hk 0 (by omega), ?_, ?_⟩
  · rw [add_next _ _ _ (by omega)]; exact h k hk 1 (by omega)
  · rw [add_next _ _ _ (by omega)]; exact h k hk 2 (by omega)
theorem ActCells.keep {w w' : World} {base : Addr} {l : List (List Int)} (h : ActCells w base l) (hb : w'.heap[base.block]? = w.heap[base.block]?) : ActCells w' base l := fun i hi c hc => by
  rw [World.cell?_of_block (w := w) (w' := w') (by rw [add_block]; exact hb)]; exact h i hi c hc
theorem ActCells.turned {w w' : World} {base : Addr} {l : List (List Int)} {pb : Nat} {v v' : Value} (h : ActCells w base l) (ht : Turned pb w v w' v') (h0 : 0 < l.length) (h1 : base.block ≠ pb) (h2 : v.ownBlock ≠ some base.block) : ActCells w' base l := by
  have := lt_of_cell (h 0 h0 0 (by omega))
  rw [add_block] at this
  exact h.keep (ht.block _ this h1 h2)
theorem endOf_none : endOf none = .returned (.tuple #[]) := rfl
theorem endOf_some (c : Int) : endOf (some c) = .panicked [given c] := rfl
theorem ints_snoc (xs : List Int) (x : Int) : ints (xs ++ [x]) = ints xs ++ [.int .i64 x] := by simp [ints]
theorem hide {p : Prop} (h : p) : Hid p := h
/-- The loop's relation. -/
def Rel (l : List (List Int)) (po : Addr) (v : Value) (B : Nat) (acc : List Int) (w : World) (k : Nat) (u : Value) (o : List Int) (wr : World) : Prop :=
  Pl l k o ∧ wr.ownsRow B 3 1 u (acc ++ o).length (ints (acc ++ o)) ∧ Turned po.block w v wr u ∧ u.ownBlock ≠ some w.heap.size
theorem rel_start {l : List (List Int)} {po : Addr} {v : Value} {B : Nat} {acc : List Int} {w : World} {o : Obj} (hown : w.ownsRow B 3 1 v acc.length (ints acc)) : Rel l po v B acc w 0 v [] (w.alloc o) :=
  ⟨Pl.start l, by rw [List.append_nil]; exact hown.alloc o, (Turned.refl _ _ _).alloc _, fun e => by have := owns_lt hown e; omega⟩
/-- What must be known where a number is appended through the pointer. -/
theorem rel_facts {l : List (List Int)} {po : Addr} {v : Value} {B : Nat} {acc : List Int} {w : World} {k : Nat} {u : Value} {o : List Int} {wr : World} (h : Rel l po v B acc w k u o wr) (hk : k ≤ l.length) (hmax : acc.length + l.length ≤ 1000) (hB : B ≤ w.heap.size) (hpo : po.block < w.heap.size) (hvp : v.ownBlock ≠ some po.block) (hsz : w.heap.size < wr.heap.size) :
    u.ownBlock ≠ some po.block ∧ u.ownBlock ≠ some w.heap.size ∧ (acc ++ o).length ≤ 1000 ∧ B ≤ wr.heap.size := by
  obtain ⟨h1, h2, h3, h4⟩ := h
  refine ⟨fun e => ?_, h4, by have := h1.1; rw [List.length_append]; omega, by omega⟩
  rcases h3.own _ e with h | h
  · exact hvp h
  · omega
theorem rel_app' {l : List (List Int)} {po : Addr} {v : Value} {B : Nat} {acc : List Int} {w : World} {u : Value} {o : List Int} {w2 w3 : World} {X : Obj} {N : Int} {k' g cap : Nat} (h2 : w2.ownsRow B 3 1 u (acc ++ o).length (ints (acc ++ o))) (h3 : Turned po.block w v w2 u) (h4 : u.ownBlock ≠ some w.heap.size) (hpl : Pl l k' (o ++ [N])) (hpo : w2.cell? po = some u) (hfo : w2.frozen? po = false) (hne : u.ownBlock ≠ some po.block) (hsz : w.heap.size < w2.heap.size)
    (hown : w3.ownsRow B 3 1 (.slice (some ⟨g, 0, none⟩) ((acc ++ o).length + 1) cap) ((acc ++ o).length + 1) (ints (acc ++ o) ++ [.int .i64 N])) (hg : (w2.alloc X).drew.grownBy w3 u.ownBlock) (hat : u.ownBlock = some g ∨ g = w2.heap.size + 1) :
    (w3.setCell po (.slice (some ⟨g, 0, none⟩) ((acc ++ o).length + 1) cap)).cell? po = some (.slice (some ⟨g, 0, none⟩) ((acc ++ o).length + 1) cap) ∧ (w3.setCell po (.slice (some ⟨g, 0, none⟩) ((acc ++ o).length + 1) cap)).frozen? po = false ∧
    Rel l po v B acc w k' (.slice (some ⟨g, 0, none⟩) ((acc ++ o).length + 1) cap) (o ++ [N]) (w3.setCell po (.slice (some ⟨g, 0, none⟩) ((acc ++ o).length + 1) cap)) ∧ w.heap.size < (w3.setCell po (.slice (some ⟨g, 0, none⟩) ((acc ++ o).length + 1) cap)).heap.size := by
  obtain ⟨r1, r2, r3, r4, r5⟩ := app_store (n := 0) (xs := []) h3 rfl hpo hfo hne (fun k hk => owns_lt h2 hk) hown hg hat
  have e1 : (acc ++ (o ++ [N])).length = (acc ++ o).length + 1 := by simp; omega
  have e2 : ints (acc ++ (o ++ [N])) = ints (acc ++ o) ++ [.int .i64 N] := by rw [← List.append_assoc, ints_snoc]
  refine ⟨r1, r2, ⟨hpl, by rw [e1, e2]; exact r3, r4, fun e => ?_⟩, by simp [World.setCell]; omega⟩
  have e : g = w.heap.size := by simpa [Value.ownBlock] using e
  rcases hat with h | h
  · exact h4 (by rw [h, e])
  · omega
theorem rel_app {l : List (List Int)} {po : Addr} {v : Value} {B : Nat} {acc : List Int} {w : World} {u : Value} {o : List Int} {w2 w3 : World} {X : Obj} {N : Int} {k k' g cap : Nat} (h : Rel l po v B acc w k u o w2) (hpl : Pl l k' (o ++ [N])) (hpo : w2.cell? po = some u) (hfo : w2.frozen? po = false) (hne : u.ownBlock ≠ some po.block) (hsz : w.heap.size < w2.heap.size)
    (hown : w3.ownsRow B 3 1 (.slice (some ⟨g, 0, none⟩) ((acc ++ o).length + 1) cap) ((acc ++ o).length + 1) (ints (acc ++ o) ++ [.int .i64 N])) (hg : (w2.alloc X).drew.grownBy w3 u.ownBlock) (hat : u.ownBlock = some g ∨ g = w2.heap.size + 1) :
    (w3.setCell po (.slice (some ⟨g, 0, none⟩) ((acc ++ o).length + 1) cap)).cell? po = some (.slice (some ⟨g, 0, none⟩) ((acc ++ o).length + 1) cap) ∧ (w3.setCell po (.slice (some ⟨g, 0, none⟩) ((acc ++ o).length + 1) cap)).frozen? po = false ∧
    Rel l po v B acc w k' (.slice (some ⟨g, 0, none⟩) ((acc ++ o).length + 1) cap) (o ++ [N]) (w3.setCell po (.slice (some ⟨g, 0, none⟩) ((acc ++ o).length + 1) cap)) ∧ w.heap.size < (w3.setCell po (.slice (some ⟨g, 0, none⟩) ((acc ++ o).length + 1) cap)).heap.size := by
  exact rel_app' h.2.1 h.2.2.1 h.2.2.2 hpl hpo hfo hne hsz hown hg hat
theorem rel_alloc {l : List (List Int)} {po : Addr} {v : Value} {B : Nat} {acc : List Int} {w : World} {k : Nat} {u : Value} {o : List Int} {wr : World} (h : Rel l po v B acc w k u o wr) (x : Obj) : Rel l po v B acc w k u o (wr.alloc x) :=
  ⟨h.1, h.2.1.alloc x, h.2.2.1.alloc x, h.2.2.2⟩
theorem play_nil (bs : Option Addr) (c : Nat) (po : Addr) (v : Value) (B : Nat) (acc : List Int) (w : World) (hpo : w.cell? po = some v) (hfr : w.frozen? po = false) (hown : w.ownsRow B 3 1 v acc.length (ints acc)) :
    Calls Try.prog 9 #[.slice bs 0 c, .pointer (some po)] w fun e w' => e = endOf (plays []).2 ∧ After po v B acc w (plays []) w' := by
  have hA : Hid (After po v B acc w (plays []) (w.alloc (.cells #[.pointer (some po)] 28))) := by
    rw [plays_nil]
    refine ⟨v, by rw [old_cell (lt_of_cell hpo)]; exact hpo, by rw [old_frozen (lt_of_cell hpo)]; exact hfr, ?_, (Turned.refl _ _ _).alloc _⟩
    rw [List.append_nil]; exact hown.alloc _
  clear hown
  go_enter Try.func9, Try.ntmps9
  go_wp2
  refine wp_loop_rounds 1 ?_
  rw [rounds_succ]
  go_wp2_with (go_at_call 99)
  go_end0
  rw [plays_nil] at hA ⊢
  exact ⟨rfl, hA.out⟩
theorem add_add (a : Addr) (n m : Nat) : (a.add n).add m = a.add (n + m) := by
  unfold Addr.add
  by_cases h : n = 0
  · subst h; simp
  · by_cases h' : m = 0
    · subst h'; simp
    · rw [if_neg h, if_neg h', if_neg (show ¬ n + m = 0 by omega)]
      simp only [Addr.mk.injEq]; exact ⟨trivial, by omega, trivial⟩
theorem ActCells.sub {w : World} {base : Addr} {l : List (List Int)} (h : ActCells w base l) (n m : Nat) (hn : n + m ≤ l.length) : ActCells w (base.add (n * 3)) ((l.drop n).take m) := fun i hi c hc => by
  rw [List.length_take, List.length_drop] at hi
  have := h (n + i) (by omega) c hc
  rw [add_add, show n * 3 + (i * 3 + c) = (n + i) * 3 + c by omega, this]
  congr 2
  have e : ((l.drop n).take m).getD i [] = l.getD (n + i) [] := by
    simp only [List.getD_eq_getElem?_getD, List.getElem?_take, List.getElem?_drop]
    rw [if_pos (by omega)]
  rw [e]
/-- The acts within. -/
theorem inner {l : List (List Int)} {base : Addr} {po : Addr} {u : Value} {B : Nat} {acc o : List Int} {W : World} {k m c : Nat} {bs : Option Addr} (ih : ∀ l', l'.length < l.length → 0 < l'.length → PlayOk l') (hk : k < l.length) (hm : m ≤ l.length - (k + 1)) (hbs : 0 < m → bs = some (base.add ((k + 1) * 3)) ∧ m ≤ c)
    (hcells : ActCells W base l) (hbp : base.block ≠ po.block) (hub : u.ownBlock ≠ some base.block) (hpo : W.cell? po = some u) (hfr : W.frozen? po = false) (hown : W.ownsRow B 3 1 u (acc ++ o).length (ints (acc ++ o))) (hB : B ≤ W.heap.size) (hup : u.ownBlock ≠ some po.block) (hlen : (acc ++ o).length + m ≤ 1000) :
    Calls Try.prog 9 #[.slice bs m c, .pointer (some po)] W fun e w' => e = endOf (plays ((l.drop (k + 1)).take m)).2 ∧ After po u B (acc ++ o) W (plays ((l.drop (k + 1)).take m)) w' := by
  have e1 : ((l.drop (k + 1)).take m).length = m := by rw [List.length_take, List.length_drop]; omega
  rcases Nat.eq_zero_or_pos m with h0 | h0
  · subst h0
    have : (l.drop (k + 1)).take 0 = [] := by simp
    rw [this]
    exact play_nil bs c po u B (acc ++ o) W hpo hfr hown
  · obtain ⟨rfl, hc⟩ := hbs h0
    have key := ih ((l.drop (k + 1)).take m) (by omega) (by omega) (base.add ((k + 1) * 3)) c po u B (acc ++ o) W (by omega) (by omega) (hcells.sub (k + 1) m (by omega)) (by rw [add_block]; exact hbp) (by rw [add_block]; exact hub) hpo hfr hown hB hup
    rw [e1] at key
    exact key
theorem store_box {w3 : World} {po a : Addr} {x u : Value} (h : w3.cell? a = some x) (hne : po.block ≠ a.block) : (w3.setCell po u).cell? a = some x := by rw [other_cell hne]; exact h

set_option maxHeartbeats 8000000 in
set_option maxRecDepth 100000 in
theorem play_any (l : List (List Int)) (hpos : 0 < l.length) (ih : ∀ l', l'.length < l.length → 0 < l'.length → PlayOk l') : PlayOk l := by
  intro base cap po v B acc w hcap hmax hcells hbp hvb hpo hfr hown hB hvp
  have hmf : ∀ (fn : Fn) (first cap : Array Value) (w : World), (Instr.makeFunc fn first cap).run Try.prog w = .ok (.func fn first cap) w := fun _ _ _ _ => rfl
  have k1 := lt_of_cell hpo
  obtain ⟨n1, n2⟩ := new_cell w #[.pointer (some po)] 28 _ rfl
  have hpo0 : (w.alloc (.cells #[.pointer (some po)] 28)).cell? po = some v := by rw [old_cell k1]; exact hpo
  have hfr0 : (w.alloc (.cells #[.pointer (some po)] 28)).frozen? po = false := by rw [old_frozen k1]; exact hfr
  have hrel0 : Hid (Rel l po v B acc w 0 v [] (w.alloc (.cells #[.pointer (some po)] 28))) := rel_start hown
  have ihH : Hid (∀ l', l'.length < l.length → 0 < l'.length → PlayOk l') := ih
  have hcH : Hid (ActCells w base l) := hcells
  have hmaxH : Hid (acc.length + l.length ≤ 1000) := hmax
  clear ih hcells hown hmax
  go_enter Try.func9, Try.ntmps9
  go_wp2
  go_loopw [4] (fun i wr => ∃ (k : Nat) (u : Value) (o : List Int), k ≤ l.length ∧ i = .int .i64 k ∧ Hid (Rel l po v B acc w k u o wr) ∧ wr.cell? po = some u ∧ wr.frozen? po = false ∧ wr.cell? ⟨w.heap.size, 0, none⟩ = some (.pointer (some po)) ∧ w.heap.size < wr.heap.size)
    (fun i _ => l.length - (intOf i).toNat)
  case atStart => exact ⟨0, v, [], Nat.zero_le _, rfl, hrel0, hpo0, hfr0, n1, by simp⟩
  case round =>
    obtain ⟨k, u, o, hk, rfl, hR, hpu, hfu, hbox, hsz⟩ := hrel
    clear hpo0 hfr0 hrel0 n1 n2
    obtain ⟨hune, hbne, hb1, hBw⟩ := rel_facts hR.out hk hmaxH.out hB k1 hvp hsz
    have hk1000 : (k : Int) ≤ 1000 := by have := hmaxH.out; omega
    rcases Nat.lt_or_ge k l.length with hlt | hge
    · have hlk : (k : Int) < (l.length : Int) := by omega
      have hcr := ActCells.turned hcH.out hR.out.2.2.1 hpos hbp hvb
      obtain ⟨K, N, I, hKNI, g0, g1, g2⟩ := act_cells hcr hlt
      clear hcr
      by_cases h0 : K = 0
      · subst h0
        obtain ⟨w2, hw2⟩ : ∃ w2, w2 = wr.alloc (.cells #[.int .i64 0, .int .i64 N, .int .i64 I] 43) := ⟨_, rfl⟩
        have p1 : w2.cell? po = some u := by rw [hw2, old_cell (lt_of_cell hpu)]; exact hpu
        have p2 : w2.frozen? po = false := by rw [hw2, old_frozen (lt_of_cell hpu)]; exact hfu
        have p3 : w2.cell? ⟨w.heap.size, 0, none⟩ = some (.pointer (some po)) := by rw [hw2, old_cell (lt_of_cell hbox)]; exact hbox
        have p4 : w2.cell? ⟨wr.heap.size, 1, none⟩ = some (.int .i64 N) := by rw [hw2]; simp [go_sem]
        have hR2 : Hid (Rel l po v B acc w k u o w2) := by rw [hw2]; exact rel_alloc hR.out _
        have hsz2 : w.heap.size < w2.heap.size := by rw [hw2]; simp; omega
        have hBw2 : B ≤ w2.heap.size := by rw [hw2]; simp; omega
        have p1a : ∀ o, (w2.alloc o).cell? po = some u := fun o => by rw [old_cell (lt_of_cell p1)]; exact p1
        have p3a : ∀ o, (w2.alloc o).cell? ⟨w.heap.size, 0, none⟩ = some (.pointer (some po)) := fun o => by rw [old_cell (lt_of_cell p3)]; exact p3
        have hw2H : Hid (w2 = wr.alloc (.cells #[.int .i64 0, .int .i64 N, .int .i64 I] 43)) := hw2
        clear hw2
        obtain ⟨i0, hi, hz0, hz1, hz2⟩ := info_parts info3
        go_wp2_with (go_at_call 99)
        rw [← hw2H.out]
        clear g0 g1 g2 hpu hfu hbox hpo hfr
        have hown2 := hR2.out.2.1
        go_region_law (refine step_append_lies _ rfl (.tmp 26) (.tmp 29) 24 rfl B 3 i0 (.int .i64 0) 1 8 Try.underlying24 hi hz0 hz1 hz2 rfl (by decide) u (acc ++ o).length (ints (acc ++ o)) (by simp [Act.eval, Act.put]) (app_owns hown2) ⟨w2.heap.size, 0, none⟩ 1 1 [.int .i64 N] (by simp [Act.eval, Act.put]) rfl app_news (by intro u hu; simp at hu; subst hu; rfl) (by decide) (by unfold maxLen; omega) (by omega) (by simp; omega) _ rfl ?_; intro g cap3 w3 hown3 hgrow3 hat3 hlt3; have q1 := app_cell hgrow3 p1 hune; have q2 := app_frozen hgrow3 p1 p2 hune; have q3 := app_cell hgrow3 p3 hbne)
        all_goals
          have hat4 : u.ownBlock = some g ∨ g = w2.heap.size + 1 := by simpa using hat3
          have hpl : Pl l (k + 1) (o ++ [N]) := by
            rw [hKNI.out.2.1]; exact hR.out.1.step0 hlt hKNI.out.1.symm
          obtain ⟨r1, r2, r3, r4⟩ := rel_app hR2.out hpl p1 p2 hune hsz2 hown3 hgrow3 hat4
          have r5 : (w3.setCell po (.slice (some ⟨g, 0, none⟩) ((acc ++ o).length + 1) cap3)).cell? ⟨w.heap.size, 0, none⟩ = some (.pointer (some po)) := store_box q3 (by simp only; omega)
          rw [List.length_append] at r1 r2 r3 r4 r5
          have r3H := hide r3
          clear r3 hpl hat4 hat3 hgrow3 hown3 hown2 q1 q2 q3 p1 p2 p3 p4 p1a p3a
          go_wp2
          refine ⟨⟨k + 1, _, o ++ [N], hlt, rfl, r3H, r1, r2, r5, r4⟩, ?_⟩
          simp [intOf]; omega
      by_cases h1 : K = 1
      · subst h1
        have hend : Hid (plays l = (o, some N)) := by
          have := hR.out.1.step1 hlt hKNI.out.1.symm
          rw [← hKNI.out.2.1] at this
          exact this
        have p1 : ∀ x, (wr.alloc x).cell? po = some u := fun x => by rw [old_cell (lt_of_cell hpu)]; exact hpu
        have p2 : ∀ x, (wr.alloc x).frozen? po = false := fun x => by rw [old_frozen (lt_of_cell hpu)]; exact hfu
        have hRa : Hid (∀ x, Rel l po v B acc w k u o (wr.alloc x)) := fun x => rel_alloc hR.out x
        go_wp2_with (go_at_call 16; refine (fail_any _ _).mono ?_; rintro e wf ⟨rfl, rfl⟩)
        have hend := hend.out
        have hRx := hRa.out (.cells #[.int .i64 1, .int .i64 N, .int .i64 I] 43)
        refine ⟨rfl, ?_⟩
        rw [hend]
        exact ⟨rfl, u, p1 _, p2 _, hRx.2.1, hRx.2.2.1⟩
      by_cases h2 : K = 2
      · subst h2
        obtain ⟨m, hm⟩ : ∃ m, Hid (m = howMany I (l.length - (k + 1))) := ⟨_, rfl⟩
        have hmle : m ≤ l.length - (k + 1) := by rw [hm.out]; exact howMany_le _ _
        have hl1000 : (l.length : Int) ≤ 1000 := by have := hmaxH.out; omega
        obtain ⟨wa, hwa⟩ : ∃ wa, Hid (wa = wr.alloc (.cells #[.int .i64 2, .int .i64 N, .int .i64 I] 43)) := ⟨_, rfl⟩
        have p1 : wa.cell? po = some u := by rw [hwa.out, old_cell (lt_of_cell hpu)]; exact hpu
        have p2 : wa.frozen? po = false := by rw [hwa.out, old_frozen (lt_of_cell hpu)]; exact hfu
        have p3 : wa.cell? ⟨w.heap.size, 0, none⟩ = some (.pointer (some po)) := by rw [hwa.out, old_cell (lt_of_cell hbox)]; exact hbox
        have p5 : wa.cell? ⟨wr.heap.size, 2, none⟩ = some (.int .i64 I) := by rw [hwa.out]; simp [go_sem]
        have hRa : Hid (Rel l po v B acc w k u o wa) := by rw [hwa.out]; exact rel_alloc hR.out _
        have hsza : w.heap.size < wa.heap.size := by rw [hwa.out]; simp; omega
        go_upto_region 11 with fail
        rw [← hwa.out]
        clear g0 g1 g2 hpu hfu hbox
        go_cut [6] from 9 to 70 (fun s6 wx => s6 = .int .i64 m ∧ wx = wa)
        case first =>
          have hmm : Hid ((m : Int) = max 0 (min I ((l.length : Int) - k - 1))) := by
            have e := hm.out
            unfold howMany at e
            rw [e]
            show (((max 0 (min I ((l.length - (k + 1) : Nat) : Int))).toNat : Nat) : Int) = _
            omega
          go_wp2_with fail
          all_goals
            go_meet
            refine ⟨?_, rfl⟩
            have hmo := hmm.out
            refine congrArg (Value.int .i64) ?_
            omega
        case rest =>
        obtain ⟨rfl, hwcE⟩ := hcut
        rw [hwcE]
        clear hwcE
        clear wc
        have hcm : (k : Int) + 1 + m ≤ cap := by omega
        have hcm0 : (k : Int) + 1 ≤ cap := by omega
        have hmI1 : (m : Int) ≤ 1000 := by omega
        go_upto_region 12 with fail
        go_cut [0, 7] from 9 to 70 (fun s0 s7 wx => s0 = .slice (some base) l.length cap ∧ s7 = .pointer (some ⟨wa.heap.size, 0, none⟩) ∧ ∃ (bs : Option Addr) (c : Nat), (0 < m → bs = some (base.add ((k + 1) * 3)) ∧ m ≤ c) ∧ wx = wa.alloc (.cells #[.slice bs m c] 22))
        case first =>
          go_wp2_with fail
          · have hck : cap = k + 1 := by assumption
            go_meet
            exact ⟨by rw [hck], rfl, some base, 0, fun h => by omega, rfl⟩
          · have hck : ¬ cap = k + 1 := by assumption
            go_meet
            exact ⟨rfl, rfl, some (base.add ((k + 1) * 3)), cap - (k + 1), fun _ => ⟨rfl, by omega⟩, rfl⟩
        case rest =>
        obtain ⟨rfl, rfl, bs, c, hbs, hwc2⟩ := hcut
        have hbsH : Hid (0 < m → bs = some (base.add ((k + 1) * 3)) ∧ m ≤ c) := hbs
        have hwc : Hid (wc = wa.alloc (.cells #[.slice bs m c] 22)) := hwc2
        clear hbs hwc2
        go_wp2_with (go_at_call 99)
        have q1 : wc.cell? po = some u := by rw [hwc.out, old_cell (lt_of_cell p1)]; exact p1
        have q2 : wc.frozen? po = false := by rw [hwc.out, old_frozen (lt_of_cell p1)]; exact p2
        have q3 : wc.cell? ⟨w.heap.size, 0, none⟩ = some (.pointer (some po)) := by rw [hwc.out, old_cell (lt_of_cell p3)]; exact p3
        have hRc : Rel l po v B acc w k u o wc := by rw [hwc.out]; exact rel_alloc hRa.out _
        have hszc : w.heap.size < wc.heap.size := by rw [hwc.out]; simp; omega
        have hin : wc.cell? ⟨wa.heap.size, 0, none⟩ = some (.slice bs m c) := by rw [hwc.out]; exact (new_cell wa _ _ _ rfl).1
        have hcr := ActCells.turned hcH.out (hRc.2.2.1.alloc (.cells #[.int .i64 0] 25)) hpos hbp hvb
        have hub : u.ownBlock ≠ some base.block := fun e => by
          have hb0 := lt_of_cell (hcH.out 0 hpos 0 (by omega))
          rw [add_block] at hb0
          rcases hRc.2.2.1.own _ e with h | h
          · exact hvb h
          · omega
        have hlm : (acc ++ o).length + m ≤ 1000 := by have := hmaxH.out; have := hRc.1.1; rw [List.length_append]; omega
        refine (try_play (r := plays ((l.drop (k + 1)).take m)) (v := u) (B := B) (acc := acc ++ o) hin q3 (lt_of_cell q1) (fun g hg => owns_lt hRc.2.1 hg)
          (inner ihH.out hlt hmle hbsH.out hcr hbp hub (by rw [old_cell (lt_of_cell q1)]; exact q1) (by rw [old_frozen (lt_of_cell q1)]; exact q2) (hRc.2.1.alloc _) (by simp; omega) hune hlm)).mono ?_
        rintro e w2 ⟨rfl, u2, s1, s2, s3, ht⟩
        obtain ⟨E, hE⟩ : ∃ E, Hid (E = (plays ((l.drop (k + 1)).take m)).2.getD 0) := ⟨_, rfl⟩
        rw [← hE.out]
        have hE1 : -999 ≤ E.tmod 1000 ∧ E.tmod 1000 ≤ 999 := by
          have h1 := Int.tmod_lt_of_pos E (show (0 : Int) < 1000 by omega)
          have h2 := Int.lt_tmod_of_pos E (show (0 : Int) < 1000 by omega)
          omega
        obtain ⟨hE2, hE3⟩ := hE1
        have s4 : w2.cell? ⟨w.heap.size, 0, none⟩ = some (.pointer (some po)) := by rw [ht.cell (a := ⟨w.heap.size, 0, none⟩) hszc (show w.heap.size ≠ po.block by omega) hbne]; exact q3
        have hs2 := ht.size
        have ht2 : Hid (Turned po.block w v w2 u2) := hRc.2.2.1.trans ht
        have hu2p : u2.ownBlock ≠ some po.block := fun e => by
          rcases ht.own _ e with h | h
          · exact hune h
          · omega
        have hu2w : u2.ownBlock ≠ some w.heap.size := fun e => by
          rcases ht.own _ e with h | h
          · exact hbne h
          · omega
        have hsz2 : w.heap.size < w2.heap.size := by omega
        rw [List.append_assoc] at s3
        obtain ⟨o1, ho1⟩ : ∃ o1, Hid (o1 = o ++ (plays ((l.drop (k + 1)).take m)).1) := ⟨_, rfl⟩
        rw [← ho1.out] at s3
        have hpl2 : Hid (Pl l (k + 1 + m) (o1 ++ [-1000000 - E.tmod 1000])) := by
          rw [ho1.out, hE.out]
          exact hRc.1.step2 hlt hKNI.out.1.symm (by rw [← hKNI.out.2.2]; exact hm.out)
        have hb3 : (acc ++ o1).length ≤ 1000 := by
          have h1 := hpl2.out.1
          rw [List.length_append] at h1
          simp only [List.length_cons, List.length_nil] at h1
          have h2 := hmaxH.out
          rw [List.length_append]
          omega
        have s3H : Hid (w2.ownsRow B 3 1 u2 (acc ++ o1).length (ints (acc ++ o1))) := s3
        have s1a : ∀ x, (w2.alloc x).cell? po = some u2 := fun x => by rw [old_cell (lt_of_cell s1)]; exact s1
        have s4a : ∀ x, (w2.alloc x).cell? ⟨w.heap.size, 0, none⟩ = some (.pointer (some po)) := fun x => by rw [old_cell (lt_of_cell s4)]; exact s4
        have hBw2 : B ≤ w2.heap.size := by omega
        obtain ⟨i0, hi, hz0, hz1, hz2⟩ := info_parts info3
        clear ht hs2 s3 q1 q2 q3 hin hcr hub hlm p1 p2 p3 p5 hpo hfr
        go_wp2_with (go_at_call 99)
        go_cut [] from 9 to 70 (fun wx => ∃ u3, Hid (Rel l po v B acc w (k + 1 + m) u3 (o1 ++ [-1000000 - E.tmod 1000]) wx) ∧ wx.cell? po = some u3 ∧ wx.frozen? po = false ∧ wx.cell? ⟨w.heap.size, 0, none⟩ = some (.pointer (some po)) ∧ w.heap.size < wx.heap.size)
        case first =>
          have hown2 := s3H.out
          go_region_law (refine step_append_lies _ rfl (.tmp 61) (.tmp 65) 24 rfl B 3 i0 (.int .i64 0) 1 8 Try.underlying24 hi hz0 hz1 hz2 rfl (by decide) u2 (acc ++ o1).length (ints (acc ++ o1)) (by simp [Act.eval, Act.put]) (app_owns hown2) ⟨w2.heap.size, 0, none⟩ 1 1 [.int .i64 (IntKind.i64.wrap (-1000000 - E.tmod 1000))] (by simp [Act.eval, Act.put]) rfl app_news (by intro u hu; simp at hu; subst hu; rfl) (by decide) (by unfold maxLen; omega) (by omega) (by simp; omega) _ rfl ?_; intro g cap3 w3 hown3 hgrow3 hat3 hlt3; have q1 := app_cell hgrow3 s1 hu2p; have q2 := app_frozen hgrow3 s1 s2 hu2p; have q3 := app_cell hgrow3 s4 hu2w)
          all_goals
            have hwr : IntKind.i64.wrap (-1000000 - E.tmod 1000) = -1000000 - E.tmod 1000 := by rw [IntKind.wrap_i64]; omega
            rw [hwr] at hown3
            have hat4 : u2.ownBlock = some g ∨ g = w2.heap.size + 1 := by simpa using hat3
            obtain ⟨r1, r2, r3, r4⟩ := rel_app' hown2 ht2.out hu2w hpl2.out s1 s2 hu2p hsz2 hown3 hgrow3 hat4
            have r5 : (w3.setCell po (.slice (some ⟨g, 0, none⟩) ((acc ++ o1).length + 1) cap3)).cell? ⟨w.heap.size, 0, none⟩ = some (.pointer (some po)) := store_box q3 (by simp only; omega)
            rw [List.length_append] at r1 r2 r3 r4 r5
            go_wp2_with fail
            go_meet
            exact ⟨_, hide r3, r1, r2, r5, r4⟩
        case rest =>
        obtain ⟨u3, hR3, c1, c2, c3, c4⟩ := hcut
        have hkm : k + 1 + m ≤ l.length := by omega
        clear s1 s2 s4 s1a s4a
        go_wp2_with (go_at_call 99)
        refine ⟨⟨k + 1 + m, u3, _, hkm, ?_, hR3, c1, c2, c3, c4⟩, ?_⟩
        · refine congrArg (Value.int .i64) ?_
          omega
        · simp [intOf]; omega
      · have hplx : Pl l (k + 1) o := hR.out.1.stepx hlt (by rw [← hKNI.out.1]; exact h0) (by rw [← hKNI.out.1]; exact h1) (by rw [← hKNI.out.1]; exact h2)
        have p1 : ∀ x, (wr.alloc x).cell? po = some u := fun x => by rw [old_cell (lt_of_cell hpu)]; exact hpu
        have p2 : ∀ x, (wr.alloc x).frozen? po = false := fun x => by rw [old_frozen (lt_of_cell hpu)]; exact hfu
        have p3 : ∀ x, (wr.alloc x).cell? ⟨w.heap.size, 0, none⟩ = some (.pointer (some po)) := fun x => by rw [old_cell (lt_of_cell hbox)]; exact hbox
        have hRa : Hid (∀ x, Rel l po v B acc w (k + 1) u o (wr.alloc x)) := fun x => ⟨hplx, (rel_alloc hR.out x).2⟩
        clear hplx
        go_wp2_with (go_at_call 99)
        refine ⟨⟨k + 1, _, o, hlt, rfl, hRa.out _, p1 _, p2 _, p3 _, by simp; omega⟩, ?_⟩
        simp [intOf]; omega
    · have hlk : ¬ (k : Int) < (l.length : Int) := by omega
      have hfin : Hid (plays l = (o, none)) := hR.out.1.done hge
      go_wp2_with (go_at_call 99)
      go_end0
      have hfin := hfin.out
      rw [hfin]
      exact ⟨rfl, u, hpu, hfu, hR.out.2.1, hR.out.2.2.1⟩
end Go.Proofs.Ytfdpnmohpdekiaa.Guard
