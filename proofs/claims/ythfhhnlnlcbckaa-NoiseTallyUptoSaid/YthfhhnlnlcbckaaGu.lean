/- For a row with a bound on what it reads: a slice's length is no more than its reading's weight. -/
import Derived.Test.YthfhhnlnlcbckaaGz
import Derived.Test.YthfhhnlnlcbckaaRows
import Derived.Deep.CondSized
namespace Go.Proofs.Ythfhhnlnlcbckaa.Gw
open Go Go.RowKit Go.Deep Go.ChangeShapes Go.WideShapes Go.ChangeAt
section
variable {H : Type} {enc : TypeId × Value → H} {P : Program} {W : World}
theorem bulk_one (d : DataW H) : 1 ≤ Rows.uptoBulk d := by
  cases d with
  | lit l => cases l <;> simp [Rows.uptoBulk]
  | nil => simp [Rows.uptoBulk]
  | ptr d => simp [Rows.uptoBulk]
  | slice elems spare => simp [Rows.uptoBulk]
  | agg parts => simp [Rows.uptoBulk]
  | iface t d => simp [Rows.uptoBulk]
  | map entries => simp [Rows.uptoBulk]
  | held h => simp [Rows.uptoBulk]
theorem bulk_len (l : List (DataW H)) : l.length ≤ Rows.uptoBulkAll l := by
  induction l with
  | nil => simp [Rows.uptoBulkAll]
  | cons x r ih => have := bulk_one x; simp only [Rows.uptoBulkAll, List.length_cons]; omega
theorem open_len {α : Type} {e : Enc α} {E T base : Nat} {v : Value} {l : List α} {F : Nat → Prop} {d : DataW H} {p : List MemPlace} (hT : P.underlying T = some (.slice E))
    (hv : Value.okWide P W .any base T v) (h : DataW.Trod enc P W 0 (fun _ => true) true T v d p) (R : Rd (.of e) W F v l) : l.length ≤ Rows.uptoBulk d := by
  obtain ⟨p0, len, cap, rfl⟩ := okWide_slice hT hv
  obtain ⟨p1, cap1, hvl, _⟩ := R
  cases hvl
  obtain ⟨fuel, hf⟩ := h
  rcases Go.Deep.open_slice hT hf with ⟨h1, h2⟩ | ⟨a, len', cap', m, n, D, Pl, h1, hb, hl, hm, hmm, h2, hx⟩
  · have h1' : Value.slice p0 l.length cap = .slice none 0 0 := by simpa [Value.cells] using h1
    have : l.length = 0 := by injection h1'
    omega
  · have h1' : Value.slice p0 l.length cap = .slice (some a) len' cap' := by simpa [Value.cells] using h1
    have hl' : l.length = len' := by injection h1'
    have hd : d = .slice ((List.range len').map D) ((List.range (m - len')).map fun j => D (len' + j)) := by simpa using congrArg Prod.fst h2
    have := bulk_len ((List.range len').map D)
    rw [hd]
    simp only [Rows.uptoBulk]
    simp only [List.length_map, List.length_range] at this
    omega
end
end Go.Proofs.Ythfhhnlnlcbckaa.Gw
