/- How much an argument holds. -/
import Derived.Test.YtjcomklheilfjaaRows
namespace Go.Proofs.Ytjcomklheilfjaa.Bulk
variable {H : Type}

theorem pos : ∀ d : DataW H, 1 ≤ Rows.uptoBulk d := by
  intro d
  cases d with
  | lit l => cases l <;> simp [Rows.uptoBulk]
  | _ => simp [Rows.uptoBulk]
theorem all_len : ∀ l : List (DataW H), l.length ≤ Rows.uptoBulkAll l := by
  intro l
  induction l with
  | nil => simp [Rows.uptoBulkAll]
  | cons d l ih => have := pos d; simp only [Rows.uptoBulkAll, List.length_cons]; omega
theorem all_mem : ∀ {l : List (DataW H)} {d : DataW H}, d ∈ l → Rows.uptoBulk d ≤ Rows.uptoBulkAll l := by
  intro l
  induction l with
  | nil => intro d h; simp at h
  | cons x l ih =>
    intro d h
    simp only [Rows.uptoBulkAll]
    rcases List.mem_cons.1 h with rfl | h
    · omega
    · have := ih h; omega
theorem slice (es sp : List (DataW H)) : es.length ≤ Rows.uptoBulk (.slice es sp) := by
  have := all_len es
  simp only [Rows.uptoBulk]; omega
theorem agg (d : DataW H) (parts : List (DataW H)) (h : d ∈ parts) : Rows.uptoBulk d ≤ Rows.uptoBulk (.agg parts) := by
  have := all_mem h
  simp only [Rows.uptoBulk]; omega
theorem small {ds : List (DataW H)} {d : DataW H} (h : Rows.uptoSmall H ds = true) (hd : d ∈ ds) : Rows.uptoBulk d ≤ 1048576 := by
  have := all_mem hd
  simp only [Rows.uptoSmall, decide_eq_true_eq] at h
  omega
end Go.Proofs.Ytjcomklheilfjaa.Bulk
