/- Layer 7: the document's answer: Prims of the modes below 9, walked. -/
import Derived.Test.YtjcomklheilfjaaOne
import Derived.Test.YtjcomklheilfjaaRef1
import Derived.Deep.RegionHeld3
import Derived.Deep.Cut
import Derived.Deep.CutRange
set_option linter.unusedVariables false
set_option linter.unusedSimpArgs false
namespace Go.Proofs.Ytjcomklheilfjaa.Build
open Go.RowKit Go

/-- The primitive that the document makes of the i-th. -/
def refP (m : Nat) (fs : List Bool) (first : Bool) (i : Nat) : PrimD := ⟨oneV m i, sidesF (oneV m i) fs (oneFl m), if first then oneP m i else oneQ m i⟩
/-- The line that closes a loop. -/
def closeP (m n : Nat) (first : Bool) : List PrimD := if m = 3 ∧ 2 ≤ n then [⟨[(n : Int) - 1, 0], [], if first then (n : Int) - 1 else 0⟩] else []
structure RefOk (m : Nat) (fs : List Bool) (C : Nat) : Prop where
  le : C ≤ fs.length
  len : ∀ k, 1 ≤ (oneV m k).length ∧ (oneV m k).length ≤ 4
  small : ∀ k, k < C → maxF (oneV m k) (oneV m k).length < (fs.length : Int)
  verts : ∀ k, k < C → ∀ j, j < (oneV m k).length → ∃ r : Nat, (oneV m k).getD j 0 = (r : Int) ∧ r < fs.length
  out : C < fs.length → (fs.length : Int) ≤ maxF (oneV m C) (oneV m C).length
theorem ref_more {W0 wo wc w5 : World} {u v' ve : Value} {ps : List PrimD} {p : PrimD} {k g1 c1 : Nat} {o : Obj} {cs : List Value}
    (hinv : PInv W0 u ps wo) (hps : ps.length = k) (hwow : Below wo.heap.size wo wc) (hg1 : wo.heap.size ≤ g1) (hV1 : 0 < p.V.length) (hVc : ∀ j, j < p.V.length → wc.cell? ⟨g1, j, none⟩ = some (.int .i64 (p.V.getD j 0))) (hE : ERow wc ve p.E) (hEg : ∀ g, ve.ownBlock = some g → wo.heap.size ≤ g)
    (hown : wc.ownsRow W0.heap.size 35 3 u k cs) (hel : Elems wc u.ownBlock cs ps) (hown5 : w5.ownsRow W0.heap.size 35 3 v' (k + 1) (cs ++ [.slice (some ⟨g1, 0, none⟩) p.V.length c1, ve, .int .i64 p.P])) (hg5 : (wc.alloc o).grownBy w5 u.ownBlock) (hat : v'.ownBlock = u.ownBlock ∨ v'.ownBlock = some (wc.heap.size + 1)) : PInv W0 v' (ps ++ [p]) w5 := by
  have hu : ∀ g, u.ownBlock = some g → W0.heap.size ≤ g ∧ g < wo.heap.size := by
    obtain ⟨_, cs0, h2, _⟩ := hinv
    exact owns_own h2
  have h1 : Below W0.heap.size W0 wc := hinv.1.trans (hwow.mono hinv.1.size)
  have hlen : cs.length = ps.length * 3 := by rw [hps]; exact hown.1
  refine PInv.more (wr := wo) (by rw [hps]) h1 hown5 hlen hel (fun g hg => ⟨(hu g hg).1, by have := (hu g hg).2; have := hwow.size; omega⟩) ⟨g1, c1, rfl, hV1, hVc⟩ hE ?_ ?_ hg5 hat
  · intro e
    have e : some g1 = u.ownBlock := e
    have := (hu g1 e.symm).2
    omega
  · cases hb : ve.ownBlock with
    | none => exact .inl rfl
    | some g =>
      refine .inr fun e => ?_
      have h2 := hEg g hb
      have h3 := (hu g e.symm).2
      omega
theorem erow_set {w : World} {v : Value} {E : List Bool} (h : ERow w v E) {a : Addr} {u : Value} (ha : ∀ g, v.ownBlock = some g → g ≠ a.block) : ERow (w.setCell a u) v E := by
  rcases h with h | ⟨g, cap, rfl, h0, h1⟩
  · exact .inl h
  · refine .inr ⟨g, cap, rfl, h0, fun k hk => ?_⟩
    rw [other_cell (fun e => ha g rfl e.symm)]
    exact h1 k hk
set_option maxHeartbeats 8000000 in
set_option maxRecDepth 100000 in
theorem ref_m (m : Nat) (hm : m < 9) (fb : Option Addr) (fcap : Nat) (fs : List Bool) (first : Bool) (w : World) (hl : fs.length ≤ 256) (hF : FlagR w fb fs) (C : Nat) (hok : RefOk m fs C) (h3 : m = 3 → 2 ≤ fs.length → C < fs.length) :
    Calls Try.prog 10 #[.int .i64 m, .slice fb fs.length fcap, .bool first] w fun e w' => ∃ v, e = .returned (.tuple #[v, .int .i64 0]) ∧ PrimsR w' v ((List.range C).map (refP m fs first) ++ closeP m fs.length first) ∧ Below w.heap.size w w' := by
  have m0 : ¬ (m : Int) < 0 := by omega
  have m9 : ¬ (9 : Int) < (m : Int) := by omega
  have m9e : ((m : Int) == 9) = false := by simp; omega
  have hlI : ¬ (256 : Int) < (fs.length : Int) := by omega
  have hlI2 : (fs.length : Int) ≤ 256 := by omega
  have hFH := hide hF
  have hokH := hide hok
  have h3H := hide h3
  have hmH := hide hm
  clear hF hok h3 hm
  have hst : Hid (PInv w (.slice none 0 0) ((List.range 0).map (refP m fs first)) w) := PInv.start w
  go_enter Try.func10, Try.ntmps10
  go_wp2_with (go_at_call 99)
  go_loopw [8, 11] (fun v i wr => ∃ k : Nat, k ≤ C ∧ i = .int .i64 k ∧ Hid (PInv w v ((List.range k).map (refP m fs first)) wr)) (fun _ i _ => fs.length - (intOf i).toNat)
  case atStart => exact ⟨0, Nat.zero_le _, rfl, hst⟩
  case round =>
    obtain ⟨k, hk, rfl, hinv⟩ := hrel
    clear hst
    rcases Nat.lt_or_ge k C with hlt | hge
    · have hkn : k < fs.length := by have := hokH.out.le; omega
      have hlk : (k : Int) < (fs.length : Int) := by omega
      have hk256 : (k : Int) ≤ 256 := by omega
      obtain ⟨wo, rfl⟩ : ∃ x, x = wr := ⟨wr, rfl⟩
      obtain ⟨V, hV⟩ : ∃ V, Hid (V = oneV m k) := ⟨_, rfl⟩
      obtain ⟨p, hp⟩ : ∃ V, Hid (V = oneP m k) := ⟨_, rfl⟩
      obtain ⟨q, hq⟩ : ∃ V, Hid (V = oneQ m k) := ⟨_, rfl⟩
      obtain ⟨fl, hfl⟩ : ∃ V, Hid (V = oneFl m) := ⟨_, rfl⟩
      have hone := hide (one_any m k hmH.out hk256 wo)
      rw [← hV.out, ← hp.out, ← hq.out, ← hfl.out] at hone
      obtain ⟨L, hL⟩ : ∃ L, Hid (L = V.length) := ⟨_, rfl⟩
      obtain ⟨l1, l2⟩ := hokH.out.len k
      have hmx := hokH.out.small k hlt
      rw [← hV.out] at l1 l2 hmx
      obtain ⟨mx, hmxd⟩ : ∃ x, Hid (x = maxF V V.length) := ⟨_, rfl⟩
      rw [← hmxd.out] at hmx
      have hmx' : ¬ (fs.length : Int) ≤ mx := by omega
      go_wp2_with (go_at_call 99)
      go_at_call 17
      refine hone.out.mono ?_
      rintro e w1 ⟨g1, rfl, hg1, hB1, hb1⟩
      have hVc : ∀ j, j < V.length → w1.cell? ⟨g1, j, none⟩ = some (.int .i64 (V.getD j 0)) := fun j hj => by
        rw [hB1.cell j]; simp [ints, List.getD_eq_getElem?_getD, hj]
      have hgr := hide (greatest_any g1 V.length V w1 (by omega) hVc)
      rw [← hmxd.out] at hgr
      have hB1H := hide hB1
      have hb1H := hide hb1
      have hVcH := hide hVc
      clear hB1 hb1 hVc hone hmx
      go_wp2_with (go_at_call 99)
      go_at_call 18
      refine hgr.out.mono ?_
      rintro e w2 ⟨rfl, hb2⟩
      have hb2H := hide hb2
      clear hb2 hgr
      obtain ⟨PF, hPF⟩ : ∃ x, Hid (x = if first then p else q) := ⟨_, rfl⟩
      have hX0 : Hid (Blk (w2.alloc (.cells #[.slice (some ⟨g1, 0, none⟩) V.length V.length, .slice none 0 0, .int .i64 q] 35)) w2.heap.size 35 [.slice (some ⟨g1, 0, none⟩) V.length V.length, .slice none 0 0, .int .i64 q]) := Blk.new w2 35 _ rfl
      go_upto_if 74 with (go_at_call 99)
      go_cut [11] from 52 to 92 (fun s11 wx => s11 = .int .i64 k ∧ Hid (Blk wx w2.heap.size 35 [.slice (some ⟨g1, 0, none⟩) V.length V.length, .slice none 0 0, .int .i64 PF]) ∧ Hid (Below w2.heap.size w2 wx))
      case first =>
        cases first with
        | false =>
          go_wp2_with fail
          go_meet
          exact ⟨rfl, by rw [hPF.out]; exact hX0, (Below.refl _ _).alloc (Nat.le_refl _) _⟩
        | true =>
          go_wp2_with fail
          go_meet
          exact ⟨rfl, by rw [hPF.out]; exact Blk.new w2 35 _ rfl, (Below.refl _ _).alloc (Nat.le_refl _) _⟩
      case rest =>
      obtain ⟨rfl, hX, hbx⟩ := hcut
      obtain ⟨wy, rfl⟩ : ∃ x, x = wc := ⟨wc, rfl⟩
      have x1 := hX.out.cell 1
      have z1 := hX.out.frozen 1
      simp only [List.getElem?_cons_zero, List.getElem?_cons_succ] at x1
      have hxlt := hX.out.lt
      have hvy : Hid (∀ j, j < V.length → wy.cell? ⟨g1, j, none⟩ = some (.int .i64 (V.getD j 0))) := fun j hj => by
        have h := keep_cell hb2H.out (hVcH.out j hj)
        rw [hbx.out.cell (lt_of_cell h)]; exact h
      have hwy2 : Hid (Below w.heap.size w wy) := by
        have h1 := hinv.out.1
        have h2 := h1.trans (hb1H.out.mono h1.size)
        have h3 := h2.trans (hb2H.out.mono h2.size)
        exact h3.trans (hbx.out.mono h3.size)
      have hFy : Hid (FlagR wy fb fs) := fun j hj => by
        obtain ⟨fa, e, h1⟩ := hFH.out j hj
        exact ⟨fa, e, keep_cell hwy2.out h1⟩
      have hvt := hide (hokH.out.verts k hlt)
      rw [← hV.out] at hvt
      go_upto_if 79 with (go_at_call 99)
      go_cut [11] from 52 to 92 (fun s11 wx => s11 = .int .i64 k ∧ ∃ ea en ec, Hid (Blk wx w2.heap.size 35 [.slice (some ⟨g1, 0, none⟩) V.length V.length, .slice ea en ec, .int .i64 PF]) ∧ Hid (ERow wx (.slice ea en ec) (sidesF V fs fl)) ∧ Hid (∀ g, (Value.slice ea en ec).ownBlock = some g → w2.heap.size ≤ g) ∧ Hid (Below w2.heap.size w2 wx))
      case first =>
        rcases Nat.lt_or_ge V.length 3 with hL2 | hL3
        · have hLI : ¬ (2 : Int) < (V.length : Int) := by omega
          go_wp2_with fail
          go_meet
          exact ⟨rfl, none, 0, 0, hX, .inl ⟨by unfold sidesF; rw [if_pos hL2], rfl⟩, (fun g hg => by cases hg), hbx⟩
        · have hLI : (2 : Int) < (V.length : Int) := by omega
          have hall := hide (all_any V.length wy l1 (by omega))
          go_wp2_with (go_at_call 99)
          go_at_call 19
          refine hall.out.mono ?_
          rintro e w4 ⟨ea, en, ec, rfl, hE4, hg4, hb4⟩
          have hX4 := hX.out.keep hb4 hX.out.lt
          have u1 := hX4.cell 1
          have y1 := hX4.frozen 1
          simp only [List.getElem?_cons_zero, List.getElem?_cons_succ] at u1
          have hE4H := hide hE4
          have hg4H := hide hg4
          have hb4H := hide hb4
          have hX4H := hide hX4
          clear hE4 hg4 hb4 hX4 hall x1 z1
          cases fl with
          | false =>
            go_wp2_with (go_at_call 99)
            go_meet
            refine ⟨rfl, ea, en, ec, hX4H.out.set 1 _, ?_, fun g hg => by have := hg4H.out g hg; omega, (hbx.out.trans (hb4H.out.mono hbx.out.size)).setCell (p := ⟨w2.heap.size, 1, none⟩) (Nat.le_refl _) _⟩
            have e : sidesF V fs false = List.replicate V.length true := by
              unfold sidesF
              rw [if_neg (by omega)]
              refine List.ext_getElem (by simp) fun i h1 h2 => by simp [sideF]
            rw [e]
            exact erow_set hE4H.out (fun g hg => by have := hg4H.out g hg; show g ≠ w2.heap.size; omega)
          | true =>
            have hpk := hide (pick_any fb fcap fs g1 V.length V (w4.setCell ⟨w2.heap.size, 1, none⟩ (.slice ea en ec)) l1 (by omega) (by omega) (fun j hj => by
              rw [other_cell (by have := lt_of_cell (hVcH.out j hj); have := hb2H.out.size; simp only at *; omega)]
              exact keep_cell hb4H.out (hvy.out j hj)) (fun j hj => by
              obtain ⟨fa, e, h1⟩ := hFH.out j hj
              have h2 := keep_cell hwy2.out h1
              refine ⟨fa, e, ?_⟩
              rw [other_cell (by
                have h4 := lt_of_cell h1
                have h5 := hinv.out.1.size
                have h6 := hb1H.out.size
                have h7 := hb2H.out.size
                simp only [add_block] at *; omega)]
              exact keep_cell hb4H.out h2) hvt.out)
            go_wp2_with (go_at_call 99)
            go_at_call 20
            refine hpk.out.mono ?_
            rintro e w6 ⟨ea', en', ec', rfl, hE6, hg6, hb6⟩
            have hX6 := (hX4H.out.set 1 (.slice ea en ec)).keep hb6 (hX4H.out.set 1 (.slice ea en ec)).lt
            have v1 := hX6.cell 1
            have q1 := hX6.frozen 1
            simp only [List.set_cons_zero, List.set_cons_succ, List.getElem?_cons_zero, List.getElem?_cons_succ] at v1
            have hE6H := hide hE6
            have hg6H := hide hg6
            have hb6H := hide hb6
            have hX6H := hide hX6
            clear hE6 hg6 hb6 hX6 hpk u1 y1
            go_wp2_with (go_at_call 99)
            go_meet
            have hs4 := hX4H.out.lt
            have hb46 : Below w2.heap.size w2 w6 := (((hbx.out.trans (hb4H.out.mono hbx.out.size)).setCell (p := ⟨w2.heap.size, 1, none⟩) (Nat.le_refl _) _)).trans (hb6H.out.mono (by simp [World.setCell]; omega))
            refine ⟨rfl, ea', en', ec', hX6H.out.set 1 _, ?_, fun g hg => by have := hg6H.out g hg; simp [World.setCell] at this; omega, hb46.setCell (p := ⟨w2.heap.size, 1, none⟩) (Nat.le_refl _) _⟩
            have e : sidesF V fs true = (List.range V.length).map (sideF V fs true) := by
              unfold sidesF
              rw [if_neg (by omega)]
            rw [e]
            exact erow_set hE6H.out (fun g hg => by have := hg6H.out g hg; simp [World.setCell] at this; show g ≠ w2.heap.size; omega)
      case rest =>
      obtain ⟨rfl, ea, en, ec, hX2, hE2, hg2, hbx2⟩ := hcut
      have hs1 := hb1H.out.size
      have hs2 := hb2H.out.size
      have hwo2 : Hid (Below wo.heap.size wo wc) := by
        have h1 := hb1H.out.trans (hb2H.out.mono hb1H.out.size)
        exact h1.trans (hbx2.out.mono h1.size)
      have hinv2 := hide (hinv.out.below hwo2.out)
      obtain ⟨cs, hown, hel⟩ := hinv2.out.2
      have hplen : ((List.range k).map (refP m fs first)).length = k := by simp
      rw [hplen] at hown
      have hownH := hide hown
      have hplenH := hide hplen
      have helH := hide hel
      have hx0 : wc.cell? ⟨w2.heap.size, 0, none⟩ = some (.slice (some ⟨g1, 0, none⟩) V.length V.length) := hX2.out.cell 0
      have hx1 : wc.cell? ⟨w2.heap.size, 1, none⟩ = some (.slice ea en ec) := hX2.out.cell 1
      have hx2 : wc.cell? ⟨w2.heap.size, 2, none⟩ = some (.int .i64 PF) := hX2.out.cell 2
      have hW0 : w.heap.size ≤ wc.heap.size := hinv2.out.1.size
      have hkC : k ≤ 256 := by omega
      have hVz : Hid (∀ j, j < V.length → wc.cell? ⟨g1, j, none⟩ = some (.int .i64 (V.getD j 0))) := fun j hj => keep_cell hbx2.out (keep_cell hb2H.out (hVcH.out j hj))
      clear hown hel hplen x1 z1
      go_wp2_with (first
        | (at_builtin; refine wpList_append_any _ rfl (.tmp 89) (.tmp 91) 24 rfl Try.underlying24 room35 cells35 rfl rfl (hownH.out.alloc _) (reads_blk _ 1 1 rfl rfl (by omega)) rfl (by intro u hu; simp at hu; rcases hu with rfl | rfl | rfl <;> rfl) (by omega) (by simp; omega) ?_)
        | (go_at_call 99))
      intro va vn vcc w5 hown5 hg5 hat5
      have hPk : Hid (refP m fs first k = ⟨V, sidesF V fs fl, PF⟩) := by unfold Hid refP; rw [← hV.out, ← hfl.out, ← hp.out, ← hq.out, ← hPF.out]
      have hmore : Hid (PInv w (.slice va vn vcc) ((List.range (k + 1)).map (refP m fs first)) w5) := by
        unfold Hid
        rw [List.range_succ, List.map_append]
        have h := ref_more (p := refP m fs first k) hinv.out hplenH.out hwo2.out hg1 (by rw [hPk.out]; exact l1) (by rw [hPk.out]; exact hVz.out) (ve := .slice ea en ec) (by rw [hPk.out]; exact hE2.out) (fun g hg => by have := hg2.out g hg; omega) hownH.out helH.out (c1 := V.length) (by rw [hPk.out]; exact hown5) hg5 hat5
        exact h
      clear hown5 hg5 hat5 hx0 hx1 hx2
      go_wp2_with (go_at_call 99)
      exact ⟨⟨k + 1, hlt, rfl, hmore⟩, by simp [intOf]; omega⟩
    · have hkC : k = C := by omega
      subst hkC
      clear hge hk
      rcases Nat.lt_or_ge k fs.length with hkn | hkn
      · have hlk : (k : Int) < (fs.length : Int) := by omega
        have hk256 : (k : Int) ≤ 256 := by omega
        obtain ⟨wo, rfl⟩ : ∃ x, x = wr := ⟨wr, rfl⟩
        obtain ⟨V, hV⟩ : ∃ V, Hid (V = oneV m k) := ⟨_, rfl⟩
        obtain ⟨p, hp⟩ : ∃ V, Hid (V = oneP m k) := ⟨_, rfl⟩
        obtain ⟨q, hq⟩ : ∃ V, Hid (V = oneQ m k) := ⟨_, rfl⟩
        obtain ⟨fl, hfl⟩ : ∃ V, Hid (V = oneFl m) := ⟨_, rfl⟩
        have hone := hide (one_any m k hmH.out hk256 wo)
        rw [← hV.out, ← hp.out, ← hq.out, ← hfl.out] at hone
        obtain ⟨l1, l2⟩ := hokH.out.len k
        have hmx := hokH.out.out hkn
        rw [← hV.out] at l1 l2 hmx
        obtain ⟨mx, hmxd⟩ : ∃ x, Hid (x = maxF V V.length) := ⟨_, rfl⟩
        rw [← hmxd.out] at hmx
        clear hkn
        go_wp2_with (go_at_call 99)
        go_at_call 17
        refine hone.out.mono ?_
        rintro e w1 ⟨g1, rfl, hg1, hB1, hb1⟩
        have hVc : ∀ j, j < V.length → w1.cell? ⟨g1, j, none⟩ = some (.int .i64 (V.getD j 0)) := fun j hj => by
          rw [hB1.cell j]; simp [ints, List.getD_eq_getElem?_getD, hj]
        have hgr := hide (greatest_any g1 V.length V w1 (by omega) hVc)
        rw [← hmxd.out] at hgr
        have hb1H := hide hb1
        clear hB1 hb1 hVc hone
        go_wp2_with (go_at_call 99)
        go_at_call 18
        refine hgr.out.mono ?_
        rintro e w2 ⟨rfl, hb2⟩
        have hwo2 : Hid (Below wo.heap.size wo w2) := hb1H.out.trans (hb2.mono hb1H.out.size)
        have hinv2 := hide (hinv.out.below hwo2.out)
        have hfin : Hid (PrimsR w2 u8 ((List.range k).map (refP m fs first))) := hinv2.out.done
        have hbf : Hid (Below w.heap.size w w2) := hinv2.out.1
        clear hb2 hgr hlk hk256
        by_cases hm3 : m = 3
        · subst hm3
          have e3 : ((3 : Nat) : Int) = 3 := rfl
          simp only [e3] at hinv ⊢
          clear e3
          rcases Nat.lt_or_ge fs.length 2 with hn2 | hn2
          · have hn2I : (fs.length : Int) < 2 := by omega
            have hcl : Hid (closeP 3 fs.length first = []) := by unfold Hid closeP; rw [if_neg (by omega)]
            clear hn2
            go_wp2_with (go_at_call 99)
            go_ret2
            rw [hcl.out, List.append_nil]
            exact ⟨u8, rfl, hfin.out, hbf.out⟩
          · have hn2I : (2 : Int) ≤ (fs.length : Int) := by omega
            have hkl : k ≤ 256 := by have := hokH.out.le; omega
            have hkey : ∀ (PF : Int) (wz : World), PF = (if first then (fs.length : Int) - 1 else 0) → Below w2.heap.size w2 wz → Blk wz w2.heap.size 3 [.int .i64 ((fs.length : Int) - 1), .int .i64 0] →
                ∃ cs, wz.ownsRow w.heap.size 35 3 u8 k cs ∧ ∀ va vn vc w5 o, w5.ownsRow w.heap.size 35 3 (.slice va vn vc) (k + 1) (cs ++ [.slice (some ⟨w2.heap.size, 0, none⟩) 2 2, .slice none 0 0, .int .i64 PF]) → (wz.alloc o).grownBy w5 u8.ownBlock → ((Value.slice va vn vc).ownBlock = u8.ownBlock ∨ (Value.slice va vn vc).ownBlock = some (wz.heap.size + 1)) →
                  PrimsR w5 (.slice va vn vc) ((List.range k).map (refP 3 fs first) ++ closeP 3 fs.length first) ∧ Below w.heap.size w w5 := by
              intro PF wz hPF hb hB
              have hplen : ((List.range k).map (refP 3 fs first)).length = k := by simp
              obtain ⟨cs, hown, hel⟩ := (hinv2.out.below hb).2
              rw [hplen] at hown
              refine ⟨cs, hown, fun va vn vc w5 o h1 h2 h3 => ?_⟩
              have hc : closeP 3 fs.length first = [⟨[(fs.length : Int) - 1, 0], [], PF⟩] := by rw [hPF]; unfold closeP; rw [if_pos ⟨rfl, hn2⟩]
              have h := ref_more (p := ⟨[(fs.length : Int) - 1, 0], [], PF⟩) (c1 := 2) (ve := .slice none 0 0) hinv2.out hplen hb (Nat.le_refl _) (by simp) (fun j hj => by
                rw [hB.cell j]
                match j, hj with
                | 0, _ => rfl
                | 1, _ => rfl
                | j + 2, hj => simp at hj; omega) (.inl ⟨rfl, rfl⟩) (fun g hg => by cases hg) hown hel h1 h2 h3
              rw [hc]
              exact ⟨h.done, h.1⟩
            have hkeyH := hide hkey
            have hszw : w.heap.size ≤ w2.heap.size := hbf.out.size
            clear hkey hn2
            cases first with
            | false =>
              obtain ⟨cs, hcs, hend⟩ := hkeyH.out 0 ((w2.alloc (.cells #[.int .i64 ((fs.length : Int) - 1), .int .i64 0] 3)).alloc (.cells #[.slice (some ⟨w2.heap.size, 0, none⟩) 2 2, .slice none 0 0, .int .i64 0] 35)) rfl (((Below.refl _ _).alloc (Nat.le_refl _) _).alloc (by simp) _) ((Blk.new w2 3 _ rfl).alloc _)
              have hcsH := hide hcs
              have hendH := hide hend
              clear hcs hend
              go_wp2_with (first
                | (at_builtin; refine wpList_append_any _ rfl (.tmp 110) (.tmp 112) 24 rfl Try.underlying24 room35 cells35 rfl rfl (hcsH.out.alloc _) (reads_blk _ 1 1 (by simp) rfl (by omega)) rfl (by intro u hu; simp at hu; rcases hu with rfl | rfl | rfl <;> rfl) (by omega) (by simp; omega) ?_)
                | (go_at_call 99))
              intro va vn vcc w5 hown5 hg5 hat5
              have hfin5 := hide (hendH.out va vn vcc w5 _ hown5 hg5 (by simpa using hat5))
              clear hown5 hg5 hat5
              go_wp2_with (go_at_call 99)
              go_ret2
              exact ⟨_, rfl, hfin5.out⟩
            | true =>
              obtain ⟨cs, hcs, hend⟩ := hkeyH.out ((fs.length : Int) - 1) ((w2.alloc (.cells #[.int .i64 ((fs.length : Int) - 1), .int .i64 0] 3)).alloc (.cells #[.slice (some ⟨w2.heap.size, 0, none⟩) 2 2, .slice none 0 0, .int .i64 ((fs.length : Int) - 1)] 35)) rfl (((Below.refl _ _).alloc (Nat.le_refl _) _).alloc (by simp) _) ((Blk.new w2 3 _ rfl).alloc _)
              have hcsH := hide hcs
              have hendH := hide hend
              clear hcs hend
              go_wp2_with (first
                | (at_builtin; refine wpList_append_any _ rfl (.tmp 110) (.tmp 112) 24 rfl Try.underlying24 room35 cells35 rfl rfl (hcsH.out.alloc _) (reads_blk _ 1 1 (by simp) rfl (by omega)) rfl (by intro u hu; simp at hu; rcases hu with rfl | rfl | rfl <;> rfl) (by omega) (by simp; omega) ?_)
                | (go_at_call 99))
              intro va vn vcc w5 hown5 hg5 hat5
              have hfin5 := hide (hendH.out va vn vcc w5 _ hown5 hg5 (by simpa using hat5))
              clear hown5 hg5 hat5
              go_wp2_with (go_at_call 99)
              go_ret2
              exact ⟨_, rfl, hfin5.out⟩
        · have hm3b : ((m : Int) == 3) = false := by simp; omega
          have hcl : Hid (closeP m fs.length first = []) := by unfold Hid closeP; rw [if_neg (by omega)]
          clear hm3
          go_wp2_with (go_at_call 99)
          go_ret2
          rw [hcl.out, List.append_nil]
          exact ⟨u8, rfl, hfin.out, hbf.out⟩
      · have hlk : ¬ (k : Int) < (fs.length : Int) := by omega
        clear hkn
        have hcl : Hid (closeP m fs.length first = []) := by
          unfold Hid closeP
          refine if_neg fun h => ?_
          have := h3H.out h.1 h.2
          omega
        have hfin : Hid (PrimsR wr u8 ((List.range k).map (refP m fs first))) := hinv.out.done
        have hbf : Hid (Below w.heap.size w wr) := hinv.out.1
        by_cases hm3 : m = 3
        · subst hm3
          have e3 : ((3 : Nat) : Int) = 3 := rfl
          simp only [e3] at hinv ⊢
          clear e3
          have hn2I : (fs.length : Int) < 2 := by
            rcases Nat.lt_or_ge fs.length 2 with h | h
            · omega
            · have := h3H.out rfl h; omega
          go_wp2_with (go_at_call 99)
          go_ret2
          rw [hcl.out, List.append_nil]
          exact ⟨u8, rfl, hfin.out, hbf.out⟩
        · have hm3b : ((m : Int) == 3) = false := by simp; omega
          clear hm3
          go_wp2_with (go_at_call 99)
          go_ret2
          rw [hcl.out, List.append_nil]
          exact ⟨u8, rfl, hfin.out, hbf.out⟩
end Go.Proofs.Ytjcomklheilfjaa.Build
