/- Layer 3: the document's Play, walked. -/
import Derived.Test.YtfdpnmohpdekiaaPlay
import Derived.Test.YtfdpnmohpdekiaaSxD5
set_option linter.unusedVariables false
set_option linter.unusedSimpArgs false
namespace Go.Proofs.Ytfdpnmohpdekiaa.Guard
open Go.RowKit Go

theorem play_all (n : Nat) : ∀ l : List (List Int), l.length = n → 0 < l.length → PlayOk l := by
  induction n using Nat.strongRecOn with
  | ind n ih => exact fun l hl hpos => play_any l hpos fun l' h1 h2 => ih l'.length (by omega) l' rfl h2

/-- append, onto what the call owns, of whatever reads as so many cells. -/
theorem wpList_append_any {P : Program} {ops : Array Oper} {rest : List Oper} {o : Oper} {a : Act} {Q : Exit → Act → World → Prop} (w : World) (hgd : o.guard = none) (s x : Operand) (t : TypeId)
    (ho : o.op = .call { callee := .builtin .append, args := #[s, x], argTypes := #[t, t] }) {B : Nat} {e : TypeId} {room sz : Nat} {v y : Value} {n m : Nat} {xs news : List Value} (ht : P.underlying t = some (.slice e)) (hr : Go.Sx.roomOf P e = some room) (hsz : P.cellsOf e = sz)
    (hs : a.eval s = v) (hx : a.eval x = y) (hown : w.ownsRow B e sz v n xs) (hy : Go.Sx.Reads w y m news) (hl : news.length = m * sz) (h1 : ∀ u ∈ news, u.oneCell' = true) (hroom : n + m ≤ room) (hB : B ≤ w.heap.size)
    (h : ∀ v' w', w'.ownsRow B e sz v' (n + m) (xs ++ news) → w.grownBy w' v.ownBlock → wpList P ops Q rest (a.put o.dst v') w') : wpList P ops Q (o :: rest) a w :=
  wpList_plain hgd fun _ hK => by
    obtain ⟨sl, w', hrun, h2, h3, _⟩ := Go.Sx.append_core (ty := o.type) ht hr hsz hown hy hl h1 hroom hB
    unfold Oper.wp execOp
    simp only [ho, resolve, invoke, builtin, Sem.run_bind, Sem.run_pure, Result.andThen_ok, List.map_toArray, List.map_cons, List.map_nil, hs, hx, hrun]
    exact hK _ _ (h _ _ h2 h3)
theorem room3 : Go.Sx.roomOf Try.prog 3 = some 17592186044416 := by kernel_rfl
theorem cells3 : Try.prog.cellsOf 3 = 1 := by kernel_rfl

def RefPost (w : World) (r : List Int × Option Int) (e : Ending) (w' : World) : Prop :=
  ∃ v, e = .returned (.tuple #[v, .bool r.2.isSome, .int .i64 (r.2.getD 0)]) ∧ w'.ownsRow w.heap.size 3 1 v r.1.length (ints r.1) ∧ Below w.heap.size w w'
def RefOk (l : List (List Int)) : Prop := ∀ (base : Addr) (cap : Nat) (w : World), l.length ≤ cap → l.length ≤ 1000 → ActCells w base l → Calls Try.prog 10 #[.slice (some base) l.length cap] w (RefPost w (plays l))
theorem ref_nil (bs : Option Addr) (c : Nat) (w : World) : Calls Try.prog 10 #[.slice bs 0 c] w (RefPost w (plays [])) := by
  have hp : Hid (RefPost w (plays []) (.returned (.tuple #[.slice none 0 0, .bool false, .int .i64 0])) w) := by
    rw [plays_nil]
    exact ⟨_, rfl, World.ownsRow_nil _ _ _ _, Below.refl _ _⟩
  go_enter Try.func10, Try.ntmps10
  go_wp2
  refine wp_loop_rounds 1 ?_
  rw [rounds_succ]
  go_wp2_with (go_at_call 99)
  go_ret3
  exact hp.out
theorem ref_inner {l : List (List Int)} {base : Addr} {W : World} {k m c : Nat} {bs : Option Addr} (ih : ∀ l', l'.length < l.length → 0 < l'.length → RefOk l') (hk : k < l.length) (hm : m ≤ l.length - (k + 1)) (hmax : l.length ≤ 1000) (hbs : 0 < m → bs = some (base.add ((k + 1) * 3)) ∧ m ≤ c)
    (hcells : ActCells W base l) : Calls Try.prog 10 #[.slice bs m c] W (RefPost W (plays ((l.drop (k + 1)).take m))) := by
  have e1 : ((l.drop (k + 1)).take m).length = m := by rw [List.length_take, List.length_drop]; omega
  rcases Nat.eq_zero_or_pos m with h0 | h0
  · subst h0
    have : (l.drop (k + 1)).take 0 = [] := by simp
    rw [this]
    exact ref_nil bs c W
  · obtain ⟨rfl, hc⟩ := hbs h0
    have key := ih ((l.drop (k + 1)).take m) (by omega) (by omega) (base.add ((k + 1) * 3)) c W (by omega) (by omega) (hcells.sub (k + 1) m (by omega))
    rw [e1] at key
    exact key
def RRel (l : List (List Int)) (w : World) (k : Nat) (v : Value) (o : List Int) (wr : World) : Prop :=
  Pl l k o ∧ wr.ownsRow w.heap.size 3 1 v o.length (ints o) ∧ Below w.heap.size w wr
theorem ints_len (xs : List Int) : (ints xs).length = xs.length := by simp [ints]
theorem ints_one (xs : List Int) : ∀ u ∈ ints xs, u.oneCell' = true := fun u hu => by
  simp only [ints, List.mem_map] at hu
  obtain ⟨x, _, rfl⟩ := hu
  rfl
theorem ActCells.below {w w' : World} {base : Addr} {l : List (List Int)} (h : ActCells w base l) (hb : Below w.heap.size w w') (h0 : 0 < l.length) : ActCells w' base l := by
  have := lt_of_cell (h 0 h0 0 (by omega))
  rw [add_block] at this
  exact h.keep (hb.block _ this)

theorem reads_new {w : World} {x : Value} {T : TypeId} (H : Nat) (hH : w.heap.size = H) : Go.Sx.Reads (w.alloc (.cells #[x] T)) (.slice (some ⟨H, 0, none⟩) 1 1) 1 [x] := by
  subst hH
  refine ⟨some ⟨w.heap.size, 0, none⟩, 1, rfl, by unfold maxLen; omega, fun h => (by cases h), fun j u hj => ⟨_, rfl, ?_⟩⟩
  match j, hj with
  | 0, hj =>
    have : x = u := by simpa using hj
    subst this
    exact (new_cell w #[x] T x rfl).1
theorem rrel_app {l : List (List Int)} {w wr w3 : World} {k k' n' : Nat} {v v' : Value} {o news : List Int} {x y : Obj} (h : wr.ownsRow w.heap.size 3 1 v o.length (ints o)) (hb : Below w.heap.size w wr) (hpl : Pl l k' (o ++ news)) (hown : w3.ownsRow w.heap.size 3 1 v' n' (ints o ++ ints news)) (hn : n' = o.length + news.length) (hg : ((wr.alloc x).alloc y).grownBy w3 v.ownBlock) : RRel l w k' v' (o ++ news) w3 := by
  refine ⟨hpl, ?_, ?_⟩
  · rw [List.length_append, show ints (o ++ news) = ints o ++ ints news by simp [ints], ← hn]; exact hown
  · have hs := hb.size
    exact ((hb.alloc (by omega) x).alloc (by simp; omega) y).grown hg (by simp; omega) (fun g hg' => (h.lt g hg').1)

set_option maxHeartbeats 4000000 in
set_option maxRecDepth 100000 in
theorem ref_any (l : List (List Int)) (hpos : 0 < l.length) (ih : ∀ l', l'.length < l.length → 0 < l'.length → RefOk l') : RefOk l := by
  intro base cap w hcap hmax hcells
  have ihH : Hid (∀ l', l'.length < l.length → 0 < l'.length → RefOk l') := ih
  have hcH : Hid (ActCells w base l) := hcells
  have hrel0 : Hid (RRel l w 0 (.slice none 0 0) [] w) := ⟨Pl.start l, World.ownsRow_nil _ _ _ _, Below.refl _ _⟩
  clear ih hcells
  have hmaxI : (l.length : Int) ≤ 1000 := by omega
  go_enter Try.func10, Try.ntmps10
  go_wp2
  go_loopw [5, 6] (fun v i wr => ∃ (k : Nat) (o : List Int), k ≤ l.length ∧ i = .int .i64 k ∧ Hid (RRel l w k v o wr))
    (fun _ i _ => l.length - (intOf i).toNat)
  case atStart => exact ⟨0, [], Nat.zero_le _, rfl, hrel0⟩
  case round =>
    obtain ⟨k, o, hk, rfl, hR⟩ := hrel
    clear hrel0
    rcases Nat.lt_or_ge k l.length with hlt | hge
    · have hlk : (k : Int) < (l.length : Int) := by omega
      have hcr := hcH.out.below hR.out.2.2 hpos
      obtain ⟨K, N, I, hKNI, g0, g1, g2⟩ := act_cells hcr hlt
      clear hcr
      by_cases h0 : K = 0
      · subst h0
        have hownH : Hid (wr.ownsRow w.heap.size 3 1 u5 o.length (ints o)) := hR.out.2.1
        have hpl : Hid (Pl l (k + 1) (o ++ [N])) := by
          have := hR.out.1.step0 hlt hKNI.out.1.symm
          rw [← hKNI.out.2.1] at this; exact this
        have hsz : w.heap.size ≤ wr.heap.size := hR.out.2.2.size
        have hol : o.length ≤ 1000 := by have := hR.out.1.1; omega
        go_wp2_with (first
          | (at_builtin; refine wpList_append_any _ rfl (.tmp 26) (.tmp 29) 24 rfl Try.underlying24 room3 cells3 rfl rfl ((hownH.out.alloc _).alloc _) (reads_new _ (by simp)) rfl (by intro u hu; simp at hu; subst hu; rfl) (by omega) (by simp; omega) ?_)
          | (go_at_call 99))
        intro v' w3 hown3 hg3
        have hR3 : Hid (RRel l w (k + 1) v' (o ++ [N]) w3) := rrel_app (k := k) hownH.out hR.out.2.2 hpl.out hown3 rfl hg3
        clear hown3 hg3
        go_wp2
        refine ⟨⟨k + 1, o ++ [N], hlt, rfl, hR3⟩, ?_⟩
        simp [intOf]; omega
      by_cases h1 : K = 1
      · subst h1
        have hend : Hid (plays l = (o, some N)) := by
          have := hR.out.1.step1 hlt hKNI.out.1.symm
          rw [← hKNI.out.2.1] at this; exact this
        have hpost : Hid (RefPost w (plays l) (.returned (.tuple #[u5, .bool true, .int .i64 N])) (wr.alloc (.cells #[.int .i64 1, .int .i64 N, .int .i64 I] 43)).drew) := by
          rw [hend.out]
          have hsz := hR.out.2.2.size
          exact ⟨u5, rfl, hR.out.2.1.alloc _, (hR.out.2.2.alloc (by omega) _).drew⟩
        go_wp2_with (go_at_call 99)
        go_region
        all_goals go_wp2
        all_goals go_ret3
        all_goals exact hpost.out
      by_cases h2 : K = 2
      · subst h2
        obtain ⟨m, hm⟩ : ∃ m, Hid (m = howMany I (l.length - (k + 1))) := ⟨_, rfl⟩
        have hmle : m ≤ l.length - (k + 1) := by rw [hm.out]; exact howMany_le _ _
        obtain ⟨wa, hwa⟩ : ∃ wa, Hid (wa = wr.alloc (.cells #[.int .i64 2, .int .i64 N, .int .i64 I] 43)) := ⟨_, rfl⟩
        have p5 : wa.cell? ⟨wr.heap.size, 2, none⟩ = some (.int .i64 I) := by rw [hwa.out]; simp [go_sem]
        have hsz : w.heap.size ≤ wr.heap.size := hR.out.2.2.size
        have hRa : Hid (RRel l w k u5 o wa) := by rw [hwa.out]; exact ⟨hR.out.1, hR.out.2.1.alloc _, hR.out.2.2.alloc hsz _⟩
        have hsza : w.heap.size < wa.heap.size := by rw [hwa.out]; simp; omega
        go_upto_region 12 with fail
        rw [← hwa.out]
        clear g0 g1 g2
        go_cut [8] from 12 to 73 (fun s8 wx => s8 = .int .i64 m ∧ wx = wa)
        case first =>
          have hmm : Hid ((m : Int) = max 0 (min I ((l.length : Int) - k - 1))) := by
            have e := hm.out
            unfold howMany at e
            rw [e]
            show (((max 0 (min I ((l.length - (k + 1) : Nat) : Int))).toNat : Nat) : Int) = _
            omega
          go_wp2_with fail
          all_goals
            go_meet
            refine ⟨?_, rfl⟩
            have hmo := hmm.out
            refine congrArg (Value.int .i64) ?_
            omega
        case rest =>
        obtain ⟨rfl, hwcE⟩ := hcut
        rw [hwcE]
        clear hwcE
        clear wc
        have hcm : (k : Int) + 1 + m ≤ cap := by omega
        have hcm0 : (k : Int) + 1 ≤ cap := by omega
        have hmI1 : (m : Int) ≤ 1000 := by omega
        obtain ⟨G, hG⟩ : ∃ G, Hid (G = (plays ((l.drop (k + 1)).take m)).2.isSome) := ⟨_, rfl⟩
        obtain ⟨E, hE⟩ : ∃ E, Hid (E = (plays ((l.drop (k + 1)).take m)).2.getD 0) := ⟨_, rfl⟩
        have hcr := hcH.out.below hRa.out.2.2 hpos
        have hcall : Hid (∀ (bs : Option Addr) (c : Nat), (0 < m → bs = some (base.add ((k + 1) * 3)) ∧ m ≤ c) → Calls Try.prog 10 #[.slice bs m c] wa (RefPost wa (plays ((l.drop (k + 1)).take m)))) := fun bs c h => ref_inner ihH.out hlt hmle hmax h hcr
        clear hcr
        go_upto_region 13 with fail
        go_cut [0, 9, 10, 11] from 12 to 73 (fun s0 s9 s10 s11 wx => s0 = .slice (some base) l.length cap ∧ s10 = .bool G ∧ s11 = .int .i64 E ∧ Hid (wx.ownsRow wa.heap.size 3 1 s9 (plays ((l.drop (k + 1)).take m)).1.length (ints (plays ((l.drop (k + 1)).take m)).1) ∧ Below wa.heap.size wa wx))
        case first =>
          by_cases hck : cap = k + 1
          · have hm0 : m = 0 := by omega
            have hckH : Hid (cap = k + 1) := hck
            clear hm0
            go_wp2_with (go_at_call 99)
            go_at_call 10
            refine (hcall.out _ _ (fun h => by omega)).mono ?_
            rintro e w2 ⟨vi, rfl, ho2, hb2⟩
            rw [← hG.out, ← hE.out]
            have hob := hide (And.intro ho2 hb2)
            clear ho2 hb2
            go_wp2_with fail
            go_meet
            exact ⟨by rw [hckH.out], rfl, rfl, hob⟩
          · go_wp2_with (go_at_call 99)
            go_at_call 10
            refine (hcall.out _ _ (fun h => ⟨rfl, by omega⟩)).mono ?_
            rintro e w2 ⟨vi, rfl, ho2, hb2⟩
            rw [← hG.out, ← hE.out]
            have hob := hide (And.intro ho2 hb2)
            clear ho2 hb2
            go_wp2_with fail
            go_meet
            exact ⟨rfl, rfl, rfl, hob⟩
        case rest =>
        obtain ⟨rfl, rfl, rfl, hob⟩ := hcut
        obtain ⟨xs, hxs⟩ : ∃ xs, Hid (xs = (plays ((l.drop (k + 1)).take m)).1) := ⟨_, rfl⟩
        rw [← hxs.out] at hob
        have hown1 : Hid (wc.ownsRow w.heap.size 3 1 u5 o.length (ints o)) := owns_keep hRa.out.2.1 (fun g hg => hob.out.2.block g (owns_lt hRa.out.2.1 hg))
        have hread : Hid (Go.Sx.Reads wc u9 xs.length (ints xs)) := Go.Sx.reads_of_owns hob.out.1
        have hbw : Hid (Below w.heap.size w wc) := hRa.out.2.2.trans (hob.out.2.mono (by omega))
        have hE1 : -999 ≤ E.tmod 1000 ∧ E.tmod 1000 ≤ 999 := by
          have h1 := Int.tmod_lt_of_pos E (show (0 : Int) < 1000 by omega)
          have h2 := Int.lt_tmod_of_pos E (show (0 : Int) < 1000 by omega)
          omega
        obtain ⟨hE2, hE3⟩ := hE1
        have hpl2 : Hid (Pl l (k + 1 + m) (o ++ xs ++ [-1000000 - E.tmod 1000])) := by
          rw [hxs.out, hE.out]
          exact hR.out.1.step2 hlt hKNI.out.1.symm (by rw [← hKNI.out.2.2]; exact hm.out)
        have hlen3 : o.length + xs.length ≤ 1000 := by
          have h1 := hpl2.out.1
          simp only [List.length_append, List.length_cons, List.length_nil] at h1
          omega
        have hsz2 : w.heap.size ≤ wc.heap.size := hbw.out.size
        have hGE : Hid (G = false → E = 0) := fun h => by
          rw [hG.out] at h
          rw [hE.out]
          cases h3 : (plays ((l.drop (k + 1)).take m)).2
          · rfl
          · rw [h3] at h; cases h
        go_wp2_with (first
          | (at_builtin; refine wpList_append_any _ rfl (.tmp 60) (.tmp 61) 24 rfl Try.underlying24 room3 cells3 rfl rfl hown1.out hread.out (by rw [ints_len, Nat.mul_one]) (ints_one xs) (by omega) hsz2 ?_)
          | (go_at_call 99))
        intro v' w3 hown3 hg3
        have hown4 : Hid (w3.ownsRow w.heap.size 3 1 v' (o ++ xs).length (ints (o ++ xs))) := by
          rw [List.length_append, show ints (o ++ xs) = ints o ++ ints xs by simp [ints]]; exact hown3
        have hb4 : Hid (Below w.heap.size w w3) := hbw.out.grown hg3 hsz2 (fun g hg' => (hown1.out.lt g hg').1)
        have hsz4 : w.heap.size ≤ w3.heap.size := hb4.out.size
        clear hown3 hg3
        rcases hGB : G with _ | _
        · have hE0 := hGE.out hGB
          subst hE0
          subst hGB
          have hpl3 : Hid (Pl l (k + 1 + m) (o ++ xs ++ [-1000000])) := hpl2.out
          go_wp2_with (first
            | (at_builtin; refine wpList_append_any _ rfl (.tmp 65) (.tmp 69) 24 rfl Try.underlying24 room3 cells3 rfl rfl (hown4.out.alloc _) (reads_new _ rfl) rfl (by intro u hu; simp at hu; subst hu; rfl) (by rw [List.length_append]; omega) (by simp; omega) ?_)
            | (go_at_call 99))
          intro v'' w4 hown5 hg5
          have hR4 : Hid (RRel l w (k + 1 + m) v'' (o ++ xs ++ [-1000000]) w4) := ⟨hpl3.out, by
              rw [List.length_append, List.length_append, show ints (o ++ xs ++ [-1000000]) = ints (o ++ xs) ++ [.int .i64 (-1000000)] by simp [ints]]; exact hown5, (hb4.out.alloc (by omega) _).grown hg5 (by simp; omega) (fun g hg' => (hown4.out.lt g hg').1)⟩
          have hkm : k + 1 + m ≤ l.length := by omega
          clear hown5 hg5
          go_wp2
          refine ⟨⟨k + 1 + m, _, hkm, ?_, hR4⟩, ?_⟩
          · refine congrArg (Value.int .i64) ?_
            omega
          · simp [intOf]; omega
        · subst hGB
          have hpl3 := hpl2
          go_wp2_with (first
            | (at_builtin; refine wpList_append_any _ rfl (.tmp 65) (.tmp 69) 24 rfl Try.underlying24 room3 cells3 rfl rfl (hown4.out.alloc _) (reads_new _ rfl) rfl (by intro u hu; simp at hu; subst hu; rfl) (by rw [List.length_append]; omega) (by simp; omega) ?_)
            | (go_at_call 99))
          intro v'' w4 hown5 hg5
          have hR4 : Hid (RRel l w (k + 1 + m) v'' (o ++ xs ++ [-1000000 - E.tmod 1000]) w4) := ⟨hpl3.out, by
              rw [List.length_append, List.length_append, show ints (o ++ xs ++ [-1000000 - E.tmod 1000]) = ints (o ++ xs) ++ [.int .i64 (-1000000 - E.tmod 1000)] by simp [ints]]; exact hown5, (hb4.out.alloc (by omega) _).grown hg5 (by simp; omega) (fun g hg' => (hown4.out.lt g hg').1)⟩
          have hkm : k + 1 + m ≤ l.length := by omega
          clear hown5 hg5
          go_wp2
          refine ⟨⟨k + 1 + m, _, hkm, ?_, hR4⟩, ?_⟩
          · refine congrArg (Value.int .i64) ?_
            omega
          · simp [intOf]; omega
      · have hplx : Pl l (k + 1) o := hR.out.1.stepx hlt (by rw [← hKNI.out.1]; exact h0) (by rw [← hKNI.out.1]; exact h1) (by rw [← hKNI.out.1]; exact h2)
        have hRa : Hid (∀ x, RRel l w (k + 1) _ o (wr.alloc x)) := fun x => ⟨hplx, hR.out.2.1.alloc x, hR.out.2.2.alloc (by have := hR.out.2.2.size; omega) x⟩
        clear hplx
        go_wp2_with (go_at_call 99)
        refine ⟨⟨k + 1, o, hlt, rfl, hRa.out _⟩, ?_⟩
        simp [intOf]; omega
    · have hlk : ¬ (k : Int) < (l.length : Int) := by omega
      go_wp2_with (go_at_call 99)
      have hpost : Hid (RefPost w (plays l) (.returned (.tuple #[u5, .bool false, .int .i64 0])) wr) := by
        rw [hR.out.1.done hge]
        exact ⟨u5, rfl, hR.out.2.1, hR.out.2.2⟩
      go_ret3
      exact hpost.out
end Go.Proofs.Ytfdpnmohpdekiaa.Guard
