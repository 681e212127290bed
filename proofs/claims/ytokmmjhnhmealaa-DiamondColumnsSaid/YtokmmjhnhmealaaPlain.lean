/- Layer 13: lines and diamonds: plain. -/
import Derived.Test.YtokmmjhnhmealaaSxH2
set_option linter.unusedVariables false
set_option linter.unusedSimpArgs false
namespace Go.Proofs.Ytokmmjhnhmealaa.Plain

def InD (u v : Int) : Prop := u+v ≤ 128 ∧ -128 < u+v ∧ u-v ≤ 128 ∧ -128 < u-v
/-- the band of a line that goes to the right -/
def BandW (w h u v : Int) : Prop := (h ≤ 0 → -(128*w) < w*v-h*u ∧ w*v-h*u ≤ 128*w) ∧ (0 < h → -(128*w) ≤ w*v-h*u ∧ w*v-h*u < 128*w)
theorem in_bandW {w h u v : Int} (hw : 0 < w) (h1 : -w ≤ h) (h2 : h ≤ w) (hin : InD u v) : BandW w h u v := by
  obtain ⟨a, b, c, d⟩ := hin
  have e1 : 0 ≤ (w-h)*(128-(u+v)) := Int.mul_nonneg (by omega) (by omega)
  have e2 : 0 ≤ (w+h)*(127-(v-u)) := Int.mul_nonneg (by omega) (by omega)
  have e3 : 0 ≤ (w-h)*(127+(u+v)) := Int.mul_nonneg (by omega) (by omega)
  have e4 : 0 ≤ (w+h)*(128+(v-u)) := Int.mul_nonneg (by omega) (by omega)
  constructor
  · intro hh
    constructor <;> grind
  · intro hh
    constructor <;> grind
/-- both ends to the right of the middle: the left one is in -/
theorem right_in {w h pu pv : Int} (hw : 0 < w) (h1 : -w ≤ h) (h2 : h ≤ w) (hb : BandW w h pu pv) (hp : 0 < pu) (a1 : pu + pv ≤ 128) (a2 : pu - pv ≤ 128) : InD pu pv := by
  refine ⟨a1, ?_, a2, ?_⟩
  · apply Int.lt_of_not_ge
    intro hc
    have e1 : 0 ≤ w * (-128 - (pu+pv)) := Int.mul_nonneg (by omega) (by omega)
    have e2 : 0 ≤ pu * (w+h) := Int.mul_nonneg (by omega) (by omega)
    obtain ⟨b1, b2⟩ := hb
    have e3 : 0 < h → 0 < pu * (w+h) := fun h => Int.mul_pos (by omega) (by omega)
    grind
  · apply Int.lt_of_not_ge
    intro hc
    have e1 : 0 ≤ w * (-128 - (pu-pv)) := Int.mul_nonneg (by omega) (by omega)
    have e2 : 0 ≤ pu * (w-h) := Int.mul_nonneg (by omega) (by omega)
    obtain ⟨b1, b2⟩ := hb
    have e3 : h ≤ 0 → 0 < pu * (w-h) := fun h => Int.mul_pos (by omega) (by omega)
    grind
def R1 (pu pv qu qv : Int) : Prop := (min (pu+pv) (qu+qv) ≤ 128 ∧ -128 < max (pu+pv) (qu+qv)) ∧ (min (pu-pv) (qu-qv) ≤ 128 ∧ -128 < max (pu-pv) (qu-qv))
theorem bandW_move {w h u v : Int} (k : Int) : BandW w h (u + k*w) (v + k*h) ↔ BandW w h u v := by
  have : w*(v+k*h) - h*(u+k*w) = w*v-h*u := by grind
  unfold BandW; rw [this]
theorem left_in {w h pu pv : Int} (hw : 0 < w) (h1 : -w ≤ h) (h2 : h ≤ w) (hb : BandW w h pu pv) (hp : pu ≤ 0) (a1 : -128 < pu + pv) (a2 : -128 < pu - pv) : InD pu pv := by
  refine ⟨?_, a1, ?_, a2⟩
  · apply Int.le_of_not_gt
    intro hc
    have e1 : 0 ≤ w * ((pu+pv) - 129) := Int.mul_nonneg (by omega) (by omega)
    have e2 : 0 ≤ (-pu) * (w+h) := Int.mul_nonneg (by omega) (by omega)
    obtain ⟨b1, b2⟩ := hb
    grind
  · apply Int.le_of_not_gt
    intro hc
    have e1 : 0 ≤ w * ((pu-pv) - 129) := Int.mul_nonneg (by omega) (by omega)
    have e2 : 0 ≤ (-pu) * (w-h) := Int.mul_nonneg (by omega) (by omega)
    obtain ⟨b1, b2⟩ := hb
    grind
theorem wide_iff {w h pu pv qu qv : Int} (hw : 0 < w) (h1 : -w ≤ h) (h2 : h ≤ w) (eu : qu = pu + w) (ev : qv = pv + h) :
    (R1 pu pv qu qv ∧ BandW w h pu pv) ↔ (InD pu pv ∨ InD qu qv ∨ (pu ≤ 0 ∧ 0 < qu ∧ BandW w h pu pv)) := by
  have hm : BandW w h qu qv ↔ BandW w h pu pv := by
    have := bandW_move (w := w) (h := h) (u := pu) (v := pv) 1
    rw [Int.one_mul, Int.one_mul] at this
    rw [eu, ev]; exact this
  constructor
  · rintro ⟨⟨⟨r1, r2⟩, r3, r4⟩, hb⟩
    by_cases c1 : 0 < pu
    · exact .inl (right_in hw h1 h2 hb c1 (by omega) (by omega))
    · by_cases c2 : 0 < qu
      · exact .inr (.inr ⟨by omega, c2, hb⟩)
      · exact .inr (.inl (left_in hw h1 h2 (hm.2 hb) (by omega) (by omega) (by omega)))
  · rintro (hi | hi | ⟨a, b, hb⟩)
    · refine ⟨?_, in_bandW hw h1 h2 hi⟩
      obtain ⟨a, b, c, d⟩ := hi
      refine ⟨⟨?_, ?_⟩, ?_, ?_⟩ <;> omega
    · refine ⟨?_, hm.1 (in_bandW hw h1 h2 hi)⟩
      obtain ⟨a, b, c, d⟩ := hi
      refine ⟨⟨?_, ?_⟩, ?_, ?_⟩ <;> omega
    · refine ⟨?_, hb⟩
      subst eu ev
      have e1 : 0 ≤ (-pu) * (w-h) := Int.mul_nonneg (by omega) (by omega)
      have e2 : 0 ≤ (-pu) * (w+h) := Int.mul_nonneg (by omega) (by omega)
      have e3 : 0 ≤ (pu+w-1) * (w-h) := Int.mul_nonneg (by omega) (by omega)
      have e4 : 0 ≤ (pu+w-1) * (w+h) := Int.mul_nonneg (by omega) (by omega)
      obtain ⟨b1, b2⟩ := hb
      -- each bound, were it not so, would break the band
      refine ⟨⟨?_, ?_⟩, ?_, ?_⟩
      · apply Int.le_of_not_gt; intro hc
        have : 0 ≤ w * (pu + pv - 129) := Int.mul_nonneg (by omega) (by omega)
        grind
      · apply Int.lt_of_not_ge; intro hc
        have : 0 ≤ w * (-128 - (pu + w + (pv + h))) := Int.mul_nonneg (by omega) (by omega)
        grind
      · apply Int.le_of_not_gt; intro hc
        have : 0 ≤ w * (pu - pv - 129) := Int.mul_nonneg (by omega) (by omega)
        grind
      · apply Int.lt_of_not_ge; intro hc
        have : 0 ≤ w * (-128 - (pu + w - (pv + h))) := Int.mul_nonneg (by omega) (by omega)
        grind
def BandH (w h u v : Int) : Prop := -(128*h) < u*h-w*v ∧ u*h-w*v ≤ 128*h
theorem bandH_move {w h u v : Int} (k : Int) : BandH w h (u + k*w) (v + k*h) ↔ BandH w h u v := by
  have : (u+k*w)*h-w*(v+k*h) = u*h-w*v := by grind
  unfold BandH; rw [this]
theorem in_bandH {w h u v : Int} (hw : 0 < h) (h1 : -h ≤ w) (h2 : w ≤ h) (hin : InD u v) : BandH w h u v := by
  obtain ⟨a, b, c, d⟩ := hin
  have e1 : 0 ≤ (h-w)*(128-(u+v)) := Int.mul_nonneg (by omega) (by omega)
  have e2 : 0 ≤ (h+w)*(128-(u-v)) := Int.mul_nonneg (by omega) (by omega)
  have e3 : 0 ≤ (h-w)*(127+(u+v)) := Int.mul_nonneg (by omega) (by omega)
  have e4 : 0 ≤ (h+w)*(127+(u-v)) := Int.mul_nonneg (by omega) (by omega)
  constructor <;> grind
theorem up_in {w h pu pv : Int} (hw : 0 < h) (h1 : -h ≤ w) (h2 : w ≤ h) (hb : BandH w h pu pv) (hp : 0 < pv) (a1 : pu + pv ≤ 128) (a2 : -128 < pu - pv) : InD pu pv := by
  obtain ⟨b1, b2⟩ := hb
  refine ⟨a1, ?_, ?_, a2⟩
  · apply Int.lt_of_not_ge
    intro hc
    have e1 : 0 ≤ h * (-128 - (pu+pv)) := Int.mul_nonneg (by omega) (by omega)
    have e2 : 0 ≤ pv * (w+h) := Int.mul_nonneg (by omega) (by omega)
    grind
  · apply Int.le_of_not_gt
    intro hc
    have e1 : 0 ≤ h * (pu-pv-129) := Int.mul_nonneg (by omega) (by omega)
    have e2 : 0 ≤ pv * (h-w) := Int.mul_nonneg (by omega) (by omega)
    grind
theorem down_in {w h pu pv : Int} (hw : 0 < h) (h1 : -h ≤ w) (h2 : w ≤ h) (hb : BandH w h pu pv) (hp : pv ≤ 0) (a1 : -128 < pu + pv) (a2 : pu - pv ≤ 128) : InD pu pv := by
  obtain ⟨b1, b2⟩ := hb
  refine ⟨?_, a1, a2, ?_⟩
  · apply Int.le_of_not_gt
    intro hc
    have e1 : 0 ≤ h * ((pu+pv) - 129) := Int.mul_nonneg (by omega) (by omega)
    have e2 : 0 ≤ (-pv) * (w+h) := Int.mul_nonneg (by omega) (by omega)
    grind
  · apply Int.lt_of_not_ge
    intro hc
    have e1 : 0 ≤ h * (-128 - (pu-pv)) := Int.mul_nonneg (by omega) (by omega)
    have e2 : 0 ≤ (-pv) * (h-w) := Int.mul_nonneg (by omega) (by omega)
    grind
theorem tall_iff {w h pu pv qu qv : Int} (hw : 0 < h) (h1 : -h ≤ w) (h2 : w ≤ h) (eu : qu = pu + w) (ev : qv = pv + h) :
    (R1 pu pv qu qv ∧ BandH w h pu pv) ↔ (InD pu pv ∨ InD qu qv ∨ (pv ≤ 0 ∧ 0 < qv ∧ BandH w h pu pv)) := by
  have hm : BandH w h qu qv ↔ BandH w h pu pv := by
    have := bandH_move (w := w) (h := h) (u := pu) (v := pv) 1
    rw [Int.one_mul, Int.one_mul] at this
    rw [eu, ev]; exact this
  constructor
  · rintro ⟨⟨⟨r1, r2⟩, r3, r4⟩, hb⟩
    by_cases c1 : 0 < pv
    · exact .inl (up_in hw h1 h2 hb c1 (by omega) (by omega))
    · by_cases c2 : 0 < qv
      · exact .inr (.inr ⟨by omega, c2, hb⟩)
      · exact .inr (.inl (down_in hw h1 h2 (hm.2 hb) (by omega) (by omega) (by omega)))
  · rintro (hi | hi | ⟨a, b, hb⟩)
    · refine ⟨?_, in_bandH hw h1 h2 hi⟩
      obtain ⟨a, b, c, d⟩ := hi
      refine ⟨⟨?_, ?_⟩, ?_, ?_⟩ <;> omega
    · refine ⟨?_, hm.1 (in_bandH hw h1 h2 hi)⟩
      obtain ⟨a, b, c, d⟩ := hi
      refine ⟨⟨?_, ?_⟩, ?_, ?_⟩ <;> omega
    · refine ⟨?_, hb⟩
      subst eu ev
      have e1 : 0 ≤ (-pv) * (h-w) := Int.mul_nonneg (by omega) (by omega)
      have e2 : 0 ≤ (-pv) * (w+h) := Int.mul_nonneg (by omega) (by omega)
      have e3 : 0 ≤ (pv+h-1) * (h-w) := Int.mul_nonneg (by omega) (by omega)
      have e4 : 0 ≤ (pv+h-1) * (w+h) := Int.mul_nonneg (by omega) (by omega)
      obtain ⟨b1, b2⟩ := hb
      refine ⟨⟨?_, ?_⟩, ?_, ?_⟩
      · apply Int.le_of_not_gt; intro hc
        have : 0 ≤ h * (pu + pv - 129) := Int.mul_nonneg (by omega) (by omega)
        grind
      · apply Int.lt_of_not_ge; intro hc
        have : 0 ≤ h * (-128 - (pu + w + (pv + h))) := Int.mul_nonneg (by omega) (by omega)
        grind
      · apply Int.le_of_not_gt; intro hc
        have : 0 ≤ h * (pu + w - (pv + h) - 129) := Int.mul_nonneg (by omega) (by omega)
        grind
      · apply Int.lt_of_not_ge; intro hc
        have : 0 ≤ h * (-128 - (pu - pv)) := Int.mul_nonneg (by omega) (by omega)
        grind
/-- the document's words -/
def Band (w h u v : Int) : Prop :=
  (w*v-h*u < 128*max (max w (0-w)) (max h (0-h)) ∨ (w*v-h*u = 128*max (max w (0-w)) (max h (0-h)) ∧ (h < 0 ∨ (h = 0 ∧ 0 < w)))) ∧
  (0 < w*v-h*u + 128*max (max w (0-w)) (max h (0-h)) ∨ (w*v-h*u + 128*max (max w (0-w)) (max h (0-h)) = 0 ∧ (0 < h ∨ (h = 0 ∧ w < 0))))
theorem band_w {w h u v : Int} (hw : 0 < w) (h1 : -w ≤ h) (h2 : h ≤ w) : Band w h u v ↔ BandW w h u v := by
  have : max (max w (0-w)) (max h (0-h)) = w := by omega
  unfold Band BandW; rw [this]
  generalize w*v-h*u = o
  omega
theorem band_h {w h u v : Int} (hw : 0 < h) (h1 : -h ≤ w) (h2 : w ≤ h) : Band w h u v ↔ BandH w h u v := by
  have : max (max w (0-w)) (max h (0-h)) = h := by omega
  have e : u*h-w*v = -(w*v-h*u) := by grind
  unfold Band BandH; rw [this, e]
  generalize w*v-h*u = o
  omega
theorem band_neg {w h u v : Int} : Band (-w) (-h) u v ↔ Band w h u v := by
  have e : -w*v - -h*u = -(w*v-h*u) := by grind
  have e2 : max (max (-w) (0- -w)) (max (-h) (0- -h)) = max (max w (0-w)) (max h (0-h)) := by omega
  unfold Band; rw [e, e2]
  generalize w*v-h*u = o
  generalize max (max w (0-w)) (max h (0-h)) = m
  omega
theorem band_move {w h u v : Int} (k : Int) : Band w h (u + k*w) (v + k*h) ↔ Band w h u v := by
  have : w*(v+k*h) - h*(u+k*w) = w*v-h*u := by grind
  unfold Band; rw [this]
def RefM (pu pv qu qv : Int) : Prop := R1 pu pv qu qv ∧ ((pu = qu ∧ pv = qv) ∨ Band (qu-pu) (qv-pv) pu pv)
theorem ref_swap {pu pv qu qv : Int} : RefM pu pv qu qv ↔ RefM qu qv pu pv := by
  have e1 : R1 pu pv qu qv ↔ R1 qu qv pu pv := by unfold R1; omega
  have e2 : Band (qu-pu) (qv-pv) pu pv ↔ Band (pu-qu) (pv-qv) qu qv := by
    have a := band_move (w := qu-pu) (h := qv-pv) (u := pu) (v := pv) 1
    rw [Int.one_mul, Int.one_mul, show pu + (qu-pu) = qu by omega, show pv + (qv-pv) = qv by omega] at a
    have b := band_neg (w := qu-pu) (h := qv-pv) (u := qu) (v := qv)
    rw [show -(qu-pu) = pu-qu by omega, show -(qv-pv) = pv-qv by omega] at b
    rw [b, a]
  unfold RefM; rw [e1, e2]
  constructor <;> rintro ⟨a, b⟩ <;> refine ⟨a, ?_⟩ <;> rcases b with b | b <;> first | exact .inl ⟨b.1.symm, b.2.symm⟩ | exact .inr b
theorem ref_self {pu pv : Int} : RefM pu pv pu pv ↔ InD pu pv := by
  unfold RefM R1 InD
  simp only [Int.min_self, Int.max_self]
  constructor
  · rintro ⟨⟨⟨a, b⟩, c, d⟩, _⟩; exact ⟨a, b, c, d⟩
  · rintro ⟨a, b, c, d⟩; exact ⟨⟨⟨a, b⟩, c, d⟩, .inl (by simp)⟩
/-- wide, from left to right -/
theorem ref_wide {pu pv qu qv : Int} (hw : pu < qu) (h1 : -(qu-pu) ≤ qv-pv) (h2 : qv-pv ≤ qu-pu) :
    RefM pu pv qu qv ↔ (InD pu pv ∨ InD qu qv ∨ (pu ≤ 0 ∧ 0 < qu ∧ BandW (qu-pu) (qv-pv) pu pv)) := by
  rw [← wide_iff (by omega) h1 h2 (by omega) (by omega), ← band_w (by omega) h1 h2]
  unfold RefM
  constructor
  · rintro ⟨a, b | b⟩
    · omega
    · exact ⟨a, b⟩
  · rintro ⟨a, b⟩; exact ⟨a, .inr b⟩
theorem ref_tall {pu pv qu qv : Int} (hw : pv < qv) (h1 : -(qv-pv) ≤ qu-pu) (h2 : qu-pu ≤ qv-pv) :
    RefM pu pv qu qv ↔ (InD pu pv ∨ InD qu qv ∨ (pv ≤ 0 ∧ 0 < qv ∧ BandH (qu-pu) (qv-pv) pu pv)) := by
  rw [← tall_iff (by omega) h1 h2 (by omega) (by omega), ← band_h (by omega) h1 h2]
  unfold RefM
  constructor
  · rintro ⟨a, b | b⟩
    · omega
    · exact ⟨a, b⟩
  · rintro ⟨a, b⟩; exact ⟨a, .inr b⟩
/-- the program's words -/
def ImpM (pu pv qu qv : Int) : Prop :=
  InD pu pv ∨ InD qu qv ∨ (if max (qv-pv) (-(qv-pv)) ≤ max (qu-pu) (-(qu-pu)) then
    (min pu qu ≤ 0 ∧ 0 < max pu qu ∧ (if qu-pu < 0 then BandW (-(qu-pu)) (-(qv-pv)) pu pv else BandW (qu-pu) (qv-pv) pu pv))
  else (min pv qv ≤ 0 ∧ 0 < max pv qv ∧ (if qv-pv < 0 then BandH (-(qu-pu)) (-(qv-pv)) pu pv else BandH (qu-pu) (qv-pv) pu pv)))
theorem imp_ref {pu pv qu qv : Int} : ImpM pu pv qu qv ↔ RefM pu pv qu qv := by
  unfold ImpM
  split
  · rename_i hc
    rcases Int.lt_trichotomy pu qu with h | h | h
    · rw [ref_wide h (by omega) (by omega), if_neg (by omega)]
      have e1 : min pu qu = pu := by omega
      have e2 : max pu qu = qu := by omega
      rw [e1, e2]
    · have hv : pv = qv := by omega
      subst h hv
      rw [ref_self]
      constructor
      · rintro (a | a | a)
        · exact a
        · exact a
        · omega
      · exact .inl
    · rw [ref_swap, ref_wide h (by omega) (by omega), if_pos (by omega)]
      have e1 : min pu qu = qu := by omega
      have e2 : max pu qu = pu := by omega
      have e3 : BandW (-(qu-pu)) (-(qv-pv)) pu pv ↔ BandW (pu-qu) (pv-qv) qu qv := by
        have a := bandW_move (w := pu-qu) (h := pv-qv) (u := qu) (v := qv) 1
        rw [Int.one_mul, Int.one_mul, show qu + (pu-qu) = pu by omega, show qv + (pv-qv) = pv by omega] at a
        rw [show -(qu-pu) = pu-qu by omega, show -(qv-pv) = pv-qv by omega, a]
      rw [e1, e2, e3]
      constructor <;> rintro (a | a | a) <;> first | exact .inl a | exact .inr (.inl a) | exact .inr (.inr a)
  · rename_i hc
    rcases Int.lt_trichotomy pv qv with h | h | h
    · rw [ref_tall h (by omega) (by omega), if_neg (by omega)]
      have e1 : min pv qv = pv := by omega
      have e2 : max pv qv = qv := by omega
      rw [e1, e2]
    · omega
    · rw [ref_swap, ref_tall h (by omega) (by omega), if_pos (by omega)]
      have e1 : min pv qv = qv := by omega
      have e2 : max pv qv = pv := by omega
      have e3 : BandH (-(qu-pu)) (-(qv-pv)) pu pv ↔ BandH (pu-qu) (pv-qv) qu qv := by
        have a := bandH_move (w := pu-qu) (h := pv-qv) (u := qu) (v := qv) 1
        rw [Int.one_mul, Int.one_mul, show qu + (pu-qu) = pu by omega, show qv + (pv-qv) = pv by omega] at a
        rw [show -(qu-pu) = pu-qu by omega, show -(qv-pv) = pv-qv by omega, a]
      rw [e1, e2, e3]
      constructor <;> rintro (a | a | a) <;> first | exact .inl a | exact .inr (.inl a) | exact .inr (.inr a)
theorem bandW_scale {n w h u v : Int} (hn : 0 < n) : BandW (n*w) (n*h) u v ↔ BandW w h u v := by
  have e1 : n*w*v - n*h*u = n*(w*v-h*u) := by grind
  have e2 : -(128*(n*w)) = n * (-(128*w)) := by grind
  have e3 : 128*(n*w) = n * (128*w) := by grind
  have c1 : n*h ≤ 0 ↔ h ≤ 0 := by
    constructor
    · intro hh; apply Int.le_of_not_gt; intro h'; have := Int.mul_pos hn h'; omega
    · intro hh; have := Int.mul_nonneg (show 0 ≤ n by omega) (show 0 ≤ -h by omega); grind
  have c2 : 0 < n*h ↔ 0 < h := by omega
  unfold BandW
  rw [e1, e2, e3, c1, c2]
  simp only [Int.mul_lt_mul_left hn, Int.mul_le_mul_left hn]
theorem bandH_scale {n w h u v : Int} (hn : 0 < n) : BandH (n*w) (n*h) u v ↔ BandH w h u v := by
  have e1 : u*(n*h) - n*w*v = n*(u*h-w*v) := by grind
  have e2 : -(128*(n*h)) = n * (-(128*h)) := by grind
  have e3 : 128*(n*h) = n * (128*h) := by grind
  unfold BandH
  rw [e1, e2, e3]
  simp only [Int.mul_lt_mul_left hn, Int.mul_le_mul_left hn]
theorem bandW_on {w h u v u' v' : Int} (e : w*v-h*u = w*v'-h*u') : BandW w h u v ↔ BandW w h u' v' := by
  unfold BandW; rw [e]
theorem bandH_on {w h u v u' v' : Int} (e : u*h-w*v = u'*h-w*v') : BandH w h u v ↔ BandH w h u' v' := by
  unfold BandH; rw [e]
/-- a line to the right, in two parts -/
theorem parts_w {dx dy m k au av cu cv bu bv : Int} (hd : 0 < dx) (h1 : -dx ≤ dy) (h2 : dy ≤ dx) (hm : 0 < m) (hk : 0 < k) (e1 : cu = au + m*dx) (e2 : cv = av + m*dy) (e3 : bu = cu + k*dx) (e4 : bv = cv + k*dy) :
    RefM au av bu bv ↔ (RefM au av cu cv ∨ RefM cu cv bu bv) := by
  have p1 : 0 < m*dx := Int.mul_pos hm hd
  have p2 : 0 < k*dx := Int.mul_pos hk hd
  have q1 : 0 ≤ m*(dx-dy) := Int.mul_nonneg (by omega) (by omega)
  have q2 : 0 ≤ m*(dx+dy) := Int.mul_nonneg (by omega) (by omega)
  have q3 : 0 ≤ k*(dx-dy) := Int.mul_nonneg (by omega) (by omega)
  have q4 : 0 ≤ k*(dx+dy) := Int.mul_nonneg (by omega) (by omega)
  rw [Int.mul_sub] at q1 q3
  rw [Int.mul_add] at q2 q4
  have b1 : BandW (bu-au) (bv-av) au av ↔ BandW dx dy au av := by
    rw [show bu-au = (m+k)*dx by grind, show bv-av = (m+k)*dy by grind]; exact bandW_scale (by omega)
  have b2 : BandW (cu-au) (cv-av) au av ↔ BandW dx dy au av := by
    rw [show cu-au = m*dx by omega, show cv-av = m*dy by omega]; exact bandW_scale hm
  have b3 : BandW (bu-cu) (bv-cv) cu cv ↔ BandW dx dy au av := by
    rw [show bu-cu = k*dx by omega, show bv-cv = k*dy by omega, bandW_scale hk]
    exact bandW_on (by rw [e1, e2]; grind)
  have b4 : BandW dx dy au av ↔ BandW dx dy cu cv := bandW_on (by rw [e1, e2]; grind)
  have hc : InD cu cv → RefM au av bu bv := by
    intro hc
    have hb := in_bandW hd h1 h2 hc
    refine ⟨?_, .inr ((band_w (by omega) (by omega) (by omega)).2 (b1.2 (b4.2 hb)))⟩
    obtain ⟨i1, i2, i3, i4⟩ := hc
    refine ⟨⟨?_, ?_⟩, ?_, ?_⟩ <;> omega
  rw [ref_wide (pu := au) (qu := cu) (by omega) (by omega) (by omega), ref_wide (pu := cu) (qu := bu) (by omega) (by omega) (by omega), b2, b3]
  constructor
  · rw [ref_wide (by omega) (by omega) (by omega), b1]
    rintro (i | i | ⟨i, j, hb⟩)
    · exact .inl (.inl i)
    · exact .inr (.inr (.inl i))
    · by_cases hcu : 0 < cu
      · exact .inl (.inr (.inr ⟨i, hcu, hb⟩))
      · exact .inr (.inr (.inr ⟨by omega, j, hb⟩))
  · rintro ((i | i | ⟨i, j, hb⟩) | i | i | ⟨i, j, hb⟩)
    · exact (ref_wide (by omega) (by omega) (by omega)).2 (.inl i)
    · exact hc i
    · exact (ref_wide (by omega) (by omega) (by omega)).2 (.inr (.inr ⟨i, by omega, b1.2 hb⟩))
    · exact hc i
    · exact (ref_wide (by omega) (by omega) (by omega)).2 (.inr (.inl i))
    · exact (ref_wide (by omega) (by omega) (by omega)).2 (.inr (.inr ⟨by omega, j, b1.2 hb⟩))
theorem parts_h {dx dy m k au av cu cv bu bv : Int} (hd : 0 < dy) (h1 : -dy ≤ dx) (h2 : dx ≤ dy) (hm : 0 < m) (hk : 0 < k) (e1 : cu = au + m*dx) (e2 : cv = av + m*dy) (e3 : bu = cu + k*dx) (e4 : bv = cv + k*dy) :
    RefM au av bu bv ↔ (RefM au av cu cv ∨ RefM cu cv bu bv) := by
  have p1 : 0 < m*dy := Int.mul_pos hm hd
  have p2 : 0 < k*dy := Int.mul_pos hk hd
  have q1 : 0 ≤ m*(dy-dx) := Int.mul_nonneg (by omega) (by omega)
  have q2 : 0 ≤ m*(dy+dx) := Int.mul_nonneg (by omega) (by omega)
  have q3 : 0 ≤ k*(dy-dx) := Int.mul_nonneg (by omega) (by omega)
  have q4 : 0 ≤ k*(dy+dx) := Int.mul_nonneg (by omega) (by omega)
  rw [Int.mul_sub] at q1 q3
  rw [Int.mul_add] at q2 q4
  have b1 : BandH (bu-au) (bv-av) au av ↔ BandH dx dy au av := by
    rw [show bu-au = (m+k)*dx by grind, show bv-av = (m+k)*dy by grind]; exact bandH_scale (by omega)
  have b2 : BandH (cu-au) (cv-av) au av ↔ BandH dx dy au av := by
    rw [show cu-au = m*dx by omega, show cv-av = m*dy by omega]; exact bandH_scale hm
  have b3 : BandH (bu-cu) (bv-cv) cu cv ↔ BandH dx dy au av := by
    rw [show bu-cu = k*dx by omega, show bv-cv = k*dy by omega, bandH_scale hk]
    exact bandH_on (by rw [e1, e2]; grind)
  have b4 : BandH dx dy au av ↔ BandH dx dy cu cv := bandH_on (by rw [e1, e2]; grind)
  have hc : InD cu cv → RefM au av bu bv := by
    intro hc
    have hb := in_bandH hd h1 h2 hc
    refine ⟨?_, .inr ((band_h (by omega) (by omega) (by omega)).2 (b1.2 (b4.2 hb)))⟩
    obtain ⟨i1, i2, i3, i4⟩ := hc
    refine ⟨⟨?_, ?_⟩, ?_, ?_⟩ <;> omega
  rw [ref_tall (pu := au) (qu := cu) (by omega) (by omega) (by omega), ref_tall (pu := cu) (qu := bu) (by omega) (by omega) (by omega), b2, b3]
  constructor
  · rw [ref_tall (by omega) (by omega) (by omega), b1]
    rintro (i | i | ⟨i, j, hb⟩)
    · exact .inl (.inl i)
    · exact .inr (.inr (.inl i))
    · by_cases hcu : 0 < cv
      · exact .inl (.inr (.inr ⟨i, hcu, hb⟩))
      · exact .inr (.inr (.inr ⟨by omega, j, hb⟩))
  · rintro ((i | i | ⟨i, j, hb⟩) | i | i | ⟨i, j, hb⟩)
    · exact (ref_tall (by omega) (by omega) (by omega)).2 (.inl i)
    · exact hc i
    · exact (ref_tall (by omega) (by omega) (by omega)).2 (.inr (.inr ⟨i, by omega, b1.2 hb⟩))
    · exact hc i
    · exact (ref_tall (by omega) (by omega) (by omega)).2 (.inr (.inl i))
    · exact (ref_tall (by omega) (by omega) (by omega)).2 (.inr (.inr ⟨by omega, j, b1.2 hb⟩))
/-- an end that is in -/
theorem end_in {pu pv qu qv : Int} (h : InD pu pv) : RefM pu pv qu qv := imp_ref.1 (.inl h)
theorem parts {dx dy m k au av cu cv bu bv : Int} (hm : 0 ≤ m) (hk : 0 ≤ k) (e1 : cu = au + m*dx) (e2 : cv = av + m*dy) (e3 : bu = cu + k*dx) (e4 : bv = cv + k*dy) :
    RefM au av bu bv ↔ (RefM au av cu cv ∨ RefM cu cv bu bv) := by
  have hz1 : cu = au → cv = av → (RefM au av bu bv ↔ (RefM au av cu cv ∨ RefM cu cv bu bv)) := by
    rintro rfl rfl
    constructor
    · exact .inr
    · rintro (h | h)
      · exact end_in (ref_self.1 h)
      · exact h
  have hz2 : bu = cu → bv = cv → (RefM au av bu bv ↔ (RefM au av cu cv ∨ RefM cu cv bu bv)) := by
    rintro rfl rfl
    constructor
    · exact .inl
    · rintro (h | h)
      · exact h
      · exact ref_swap.1 (end_in (ref_self.1 h))
  rcases Int.lt_or_eq_of_le hm with hm | hm
  · rcases Int.lt_or_eq_of_le hk with hk | hk
    · by_cases hw : max dy (-dy) ≤ max dx (-dx)
      · rcases Int.lt_trichotomy dx 0 with h | h | h
        · rw [ref_swap, parts_w (dx := -dx) (dy := -dy) (m := k) (k := m) (cu := cu) (cv := cv) (by omega) (by omega) (by omega) hk hm (by rw [e3]; grind) (by rw [e4]; grind) (by rw [e1]; grind) (by rw [e2]; grind), ref_swap, ref_swap (pu := cu) (qu := au)]
          exact or_comm
        · have h' : dy = 0 := by omega
          subst h h'
          exact hz1 (by omega) (by omega)
        · exact parts_w h (by omega) (by omega) hm hk e1 e2 e3 e4
      · rcases Int.lt_trichotomy dy 0 with h | h | h
        · rw [ref_swap, parts_h (dx := -dx) (dy := -dy) (m := k) (k := m) (cu := cu) (cv := cv) (by omega) (by omega) (by omega) hk hm (by rw [e3]; grind) (by rw [e4]; grind) (by rw [e1]; grind) (by rw [e2]; grind), ref_swap, ref_swap (pu := cu) (qu := au)]
          exact or_comm
        · omega
        · exact parts_h h (by omega) (by omega) hm hk e1 e2 e3 e4
    · subst hk
      exact hz2 (by rw [e3]; grind) (by rw [e4]; grind)
  · subst hm
    exact hz1 (by rw [e1]; grind) (by rw [e2]; grind)
instance (u v : Int) : Decidable (InD u v) := inferInstanceAs (Decidable (_ ∧ _))
instance (a b c d : Int) : Decidable (R1 a b c d) := inferInstanceAs (Decidable (_ ∧ _))
instance (a b c d : Int) : Decidable (Band a b c d) := inferInstanceAs (Decidable (_ ∧ _))
instance (a b c d : Int) : Decidable (RefM a b c d) := inferInstanceAs (Decidable (_ ∧ _))

theorem floor_spec {n d : Int} (hd : 0 < d) : (n.tmod d < 0 → n.tdiv d = n / d + 1) ∧ (0 ≤ n.tmod d → n.tdiv d = n / d) := by
  have hs : d.sign = 1 := Int.sign_eq_one_of_pos hd
  rw [Int.tdiv_eq_ediv, Int.tmod_eq_emod, hs]
  have h1 := Int.emod_nonneg n (show d ≠ 0 by omega)
  have h2 := Int.emod_lt_of_pos n hd
  split <;> rename_i h <;> omega
theorem tdiv_le {n d : Int} (hd : 0 < d) (h1 : -4611686018427387904 ≤ n) (h2 : n ≤ 4611686018427387904) : -4611686018427387904 ≤ n.tdiv d ∧ n.tdiv d ≤ 4611686018427387904 := by
  have := Int.natAbs_tdiv_le_natAbs n d
  omega
/-- In which diamond. -/
def inT (x y : Int) : Int × Int × Bool :=
  if x % 256 = 0 ∧ y % 256 = 128 then (x / 256 - 1, y / 256, true)
  else if max (x % 256 - 128) (0 - (x % 256 - 128)) + max (y % 256 - 128) (0 - (y % 256 - 128)) < 128 ∨ (max (x % 256 - 128) (0 - (x % 256 - 128)) + max (y % 256 - 128) (0 - (y % 256 - 128)) = 128 ∧ 0 < x % 256 - 128) then (x / 256, y / 256, true)
  else (0, 0, false)
theorem inT_iff {px py x y : Int} : ((inT px py).2.2 = true ∧ (inT px py).1 = x ∧ (inT px py).2.1 = y) ↔ InD (px - 256*x - 128) (py - 256*y - 128) := by
  unfold inT InD
  split
  · simp only [true_and]; omega
  · split
    · simp only [true_and]; omega
    · simp only [Bool.false_eq_true, false_and, false_iff]; omega
theorem inT_none {px py : Int} (h : (inT px py).2.2 = false) : inT px py = (0, 0, false) := by
  unfold inT at *
  split at h
  · cases h
  · split at h
    · cases h
    · rename_i h1 h2; rw [if_neg h1, if_neg h2]
theorem inT_near {px py : Int} (h : (inT px py).2.2 = true) : px.tdiv 256 - 2 ≤ (inT px py).1 ∧ (inT px py).1 ≤ px.tdiv 256 + 2 ∧ py.tdiv 256 - 2 ≤ (inT px py).2.1 ∧ (inT px py).2.1 ≤ py.tdiv 256 + 2 := by
  have a := floor_spec (n := px) (d := 256) (by omega)
  have b := floor_spec (n := py) (d := 256) (by omega)
  unfold inT at *
  split at h
  · rename_i h1; rw [if_pos h1]; dsimp only; omega
  · split at h
    · rename_i h1 h2; rw [if_neg h1, if_pos h2]; dsimp only; omega
    · cases h
def sign3 (a b c : Int) : Int := if a < 0 then -1 else if 0 < a then 1 else if b < 0 then -1 else if 0 < b then 1 else if c < 0 then -1 else if 0 < c then 1 else 0

theorem mul_bd {a b A B : Int} (h1 : -A ≤ a) (h2 : a ≤ A) (h3 : -B ≤ b) (h4 : b ≤ B) : -(A * B) ≤ a * b ∧ a * b ≤ A * B := by
  have e1 := Int.mul_nonneg (show 0 ≤ A - a by omega) (show 0 ≤ B - b by omega)
  have e2 := Int.mul_nonneg (show 0 ≤ A + a by omega) (show 0 ≤ B + b by omega)
  have e3 := Int.mul_nonneg (show 0 ≤ A - a by omega) (show 0 ≤ B + b by omega)
  have e4 := Int.mul_nonneg (show 0 ≤ A + a by omega) (show 0 ≤ B - b by omega)
  constructor <;> grind

/-- floor says which row -/
theorem floor_row {n d y : Int} (hd : 0 < d) : n / d = y ↔ d * y ≤ n ∧ n < d * (y + 1) := by
  constructor
  · rintro rfl
    have h1 := Int.mul_ediv_self_le (x := n) (k := d) (by omega)
    have h2 := Int.lt_mul_ediv_self_add (x := n) (k := d) hd
    constructor
    · exact h1
    · grind
  · rintro ⟨h1, h2⟩
    apply Int.le_antisymm
    · apply Int.le_of_lt_add_one
      exact Int.ediv_lt_of_lt_mul hd (by rw [Int.mul_comm]; exact h2)
    · exact Int.le_ediv_of_mul_le hd (by rw [Int.mul_comm]; exact h1)
/-- where a wide line crosses the middle of a column -/
def crossI (ax ay bx by' x : Int) : Int :=
  if bx - ax < 0 then
    (if 0 - (by' - ay) ≤ 0 then (ay * (0 - (bx - ax)) + (0 - (by' - ay)) * (256 * x + 128 - ax) - 1) / (256 * (0 - (bx - ax)))
      else (ay * (0 - (bx - ax)) + (0 - (by' - ay)) * (256 * x + 128 - ax)) / (256 * (0 - (bx - ax))))
  else (if by' - ay ≤ 0 then (ay * (bx - ax) + (by' - ay) * (256 * x + 128 - ax) - 1) / (256 * (bx - ax))
      else (ay * (bx - ax) + (by' - ay) * (256 * x + 128 - ax)) / (256 * (bx - ax)))
theorem cross1 {w h ax ay x y : Int} (hw : 0 < w) : ((if h ≤ 0 then (ay * w + h * (256 * x + 128 - ax) - 1) / (256 * w) else (ay * w + h * (256 * x + 128 - ax)) / (256 * w)) = y) ↔ BandW w h (ax - 256*x - 128) (ay - 256*y - 128) := by
  unfold BandW
  have e : w * (ay - 256*y - 128) - h * (ax - 256*x - 128) = (ay * w + h * (256 * x + 128 - ax)) - 256*w*y - 128*w := by grind
  have e2 : 256*w*(y+1) = 256*w*y + 256*w := by grind
  split
  · rename_i hh
    rw [floor_row (by omega), e, e2]
    constructor
    · rintro ⟨a, b⟩
      exact ⟨fun _ => by omega, fun h => by omega⟩
    · rintro ⟨a, b⟩
      have := a hh
      omega
  · rename_i hh
    rw [floor_row (by omega), e, e2]
    constructor
    · rintro ⟨a, b⟩
      exact ⟨fun _ => by omega, fun h => by omega⟩
    · rintro ⟨a, b⟩
      have := b (by omega)
      omega
theorem cross_iff {ax ay bx by' x y : Int} (hne : ax ≠ bx) : crossI ax ay bx by' x = y ↔ (if bx - ax < 0 then BandW (-(bx-ax)) (-(by'-ay)) (ax - 256*x - 128) (ay - 256*y - 128) else BandW (bx-ax) (by'-ay) (ax - 256*x - 128) (ay - 256*y - 128)) := by
  unfold crossI
  split
  · rw [cross1 (by omega), Int.zero_sub, Int.zero_sub]
  · rw [cross1 (by omega)]
theorem cross2 {w h ax ay x y : Int} (hh : 0 < h) : (ax * h + w * (256 * y + 128 - ay) - 1) / (256 * h) = x ↔ BandH w h (ax - 256*x - 128) (ay - 256*y - 128) := by
  unfold BandH
  have e : (ax - 256*x - 128) * h - w * (ay - 256*y - 128) = (ax * h + w * (256 * y + 128 - ay)) - 256*h*x - 128*h := by grind
  have e2 : 256*h*(x+1) = 256*h*x + 256*h := by grind
  rw [floor_row (by omega), e, e2]
  omega
/-- What a line meets, by places. -/
def meetsP (ax ay bx by' x y : Int) : Prop := RefM (ax - 256*x - 128) (ay - 256*y - 128) (bx - 256*x - 128) (by' - 256*y - 128)
instance (a b c d x y : Int) : Decidable (meetsP a b c d x y) := inferInstanceAs (Decidable (RefM _ _ _ _))
def inP (ax ay x y : Int) : Prop := InD (ax - 256*x - 128) (ay - 256*y - 128)
instance (a b x y : Int) : Decidable (inP a b x y) := inferInstanceAs (Decidable (InD _ _))
theorem meets_iff {ax ay bx by' x y : Int} : meetsP ax ay bx by' x y ↔ (inP ax ay x y ∨ inP bx by' x y ∨
    (if max (by'-ay) (0-(by'-ay)) ≤ max (bx-ax) (0-(bx-ax)) then ((min ax bx ≤ 256*x+128 ∧ 256*x+128 < max ax bx) ∧ crossI ax ay bx by' x = y)
    else ((min ay by' ≤ 256*y+128 ∧ 256*y+128 < max ay by') ∧ (if by'-ay < 0 then (ax * (0-(by'-ay)) + (0-(bx-ax)) * (256*y+128-ay) - 1) / (256*(0-(by'-ay))) = x else (ax * (by'-ay) + (bx-ax) * (256*y+128-ay) - 1) / (256*(by'-ay)) = x)))) := by
  unfold meetsP inP
  rw [← imp_ref]
  unfold ImpM
  have e1 : bx - 256*x - 128 - (ax - 256*x - 128) = bx - ax := by omega
  have e2 : by' - 256*y - 128 - (ay - 256*y - 128) = by' - ay := by omega
  rw [e1, e2]
  apply or_congr Iff.rfl
  apply or_congr Iff.rfl
  rw [Int.zero_sub, Int.zero_sub]
  split
  · constructor
    · rintro ⟨a, b, c⟩
      exact ⟨⟨by omega, by omega⟩, (cross_iff (by omega)).2 c⟩
    · rintro ⟨⟨a, b⟩, c⟩
      exact ⟨by omega, by omega, (cross_iff (by omega)).1 c⟩
  · split
    · rw [cross2 (by omega)]
      constructor
      · rintro ⟨a, b, c⟩; exact ⟨⟨by omega, by omega⟩, c⟩
      · rintro ⟨⟨a, b⟩, c⟩; exact ⟨by omega, by omega, c⟩
    · constructor
      · rintro ⟨a, b, c⟩; exact ⟨⟨by omega, by omega⟩, (cross2 (by omega)).2 c⟩
      · rintro ⟨⟨a, b⟩, c⟩; exact ⟨by omega, by omega, (cross2 (by omega)).1 c⟩
theorem meets_swap {ax ay bx by' x y : Int} : meetsP ax ay bx by' x y ↔ meetsP bx by' ax ay x y := ref_swap
theorem meets_self {ax ay x y : Int} : meetsP ax ay ax ay x y ↔ inP ax ay x y := ref_self
theorem meets_end {ax ay bx by' x y : Int} (h : inP ax ay x y) : meetsP ax ay bx by' x y := end_in h
theorem meets_parts {dx dy m k ax ay x y : Int} (hm : 0 ≤ m) (hk : 0 ≤ k) : meetsP ax ay (ax + m*dx + k*dx) (ay + m*dy + k*dy) x y ↔ (meetsP ax ay (ax + m*dx) (ay + m*dy) x y ∨ meetsP (ax + m*dx) (ay + m*dy) (ax + m*dx + k*dx) (ay + m*dy + k*dy) x y) := by
  unfold meetsP
  exact parts (dx := dx) (dy := dy) hm hk (by omega) (by omega) (by omega) (by omega)
end Go.Proofs.Ytokmmjhnhmealaa.Plain
