/- Steps in the plain functions that the printer writes. -/
import Derived.Test.YthfhhnlnlcbckaaGo
namespace Go.Proofs.Ythfhhnlnlcbckaa.Gw
open Go Go.RowKit
set_option linter.unusedSimpArgs false
set_option linter.unusedVariables false
theorem i64_id {x : Int} (h0 : -9223372036854775808 ≤ x) (h1 : x ≤ 9223372036854775807) : IntKind.i64.wrap x = x := by
  have h : (2 : Int) ^ 64 = 18446744073709551616 := rfl
  simp only [IntKind.wrap, IntKind.signed, IntKind.bits, Bool.true_and, decide_eq_true_eq, show (2 : Int) ^ 64 = 18446744073709551616 from rfl, show (2 : Int) ^ (64 - 1) = 9223372036854775808 from rfl]
  split <;> omega
theorem u8_id {x : Int} (h0 : 0 ≤ x) (h1 : x ≤ 255) : IntKind.u8.wrap x = x := by
  simp only [IntKind.wrap, IntKind.signed, IntKind.bits, Bool.false_and, Bool.false_eq_true, if_false]
  omega
theorem u64_id {x : Int} (h0 : 0 ≤ x) (h1 : x ≤ 18446744073709551615) : IntKind.u64.wrap x = x := by
  simp only [IntKind.wrap, IntKind.signed, IntKind.bits, Bool.false_and, Bool.false_eq_true, if_false]
  omega
theorem u16_id {x : Int} (h0 : 0 ≤ x) (h1 : x ≤ 65535) : IntKind.u16.wrap x = x := by
  simp only [IntKind.wrap, IntKind.signed, IntKind.bits, Bool.false_and, Bool.false_eq_true, if_false]
  omega
theorem u8_in (x : Int) : 0 ≤ IntKind.u8.wrap x ∧ IntKind.u8.wrap x ≤ 255 := by
  simp only [IntKind.wrap, IntKind.signed, IntKind.bits, Bool.false_and, Bool.false_eq_true, if_false]
  omega
theorem bifT {α : Type} {p : Prop} [Decidable p] (h : p) (x y : α) : (bif decide p then x else y) = x := by simp [h]
theorem bifF {α : Type} {p : Prop} [Decidable p] (h : ¬ p) (x y : α) : (bif decide p then x else y) = y := by simp [h]
theorem bifNT {α : Type} {p : Prop} [Decidable p] (h : ¬ p) (x y : α) : (bif !decide p then x else y) = x := by simp [h]
theorem bifNF {α : Type} {p : Prop} [Decidable p] (h : p) (x y : α) : (bif !decide p then x else y) = y := by simp [h]
theorem grdT {α : Type} {p : Prop} [Decidable p] (h : p) (x : Option α) : grd (decide p) x = x := by simp [grd, h]
theorem at_nat {α : Type} {z : α} {l : List α} {n : Nat} (h : n < l.length) : at_ z l (n : Int) = l[n] := by simp [at_, List.getD, h]
theorem wrap1 {n : Nat} (h : n < 4611686018427387904) : IntKind.i64.wrap ((n : Int) + 1) = ((n + 1 : Nat) : Int) := by rw [i64_id (by omega) (by omega)]; omega
theorem wrapN {n : Nat} (h : n < 4611686018427387904) : IntKind.i64.wrap (n : Int) = (n : Int) := i64_id (by omega) (by omega)
theorem dec_k {k m : Nat} (h : m < k) : ∃ k', k = k' + 1 ∧ m ≤ k' := ⟨k - 1, by omega, by omega⟩
end Go.Proofs.Ythfhhnlnlcbckaa.Gw
