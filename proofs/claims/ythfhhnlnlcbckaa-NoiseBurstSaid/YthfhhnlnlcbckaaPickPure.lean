/- The plain laws of the Pick statements. -/
import Derived.Test.YthfhhnlnlcbckaaQf3
import Derived.Test.YthfhhnlnlcbckaaQf4
import Derived.Test.YthfhhnlnlcbckaaQf5
import Derived.Test.YthfhhnlnlcbckaaQf6
import Derived.Test.YthfhhnlnlcbckaaQf7
namespace Go.Proofs.Ythfhhnlnlcbckaa.Gw
open Go Go.RowKit
set_option linter.unusedSimpArgs false
set_option linter.unusedVariables false
theorem i64_id {x : Int} (h0 : -9223372036854775808 ≤ x) (h1 : x ≤ 9223372036854775807) : IntKind.i64.wrap x = x := by
  have h : (2 : Int) ^ 64 = 18446744073709551616 := rfl
  simp only [IntKind.wrap, IntKind.signed, IntKind.bits, Bool.true_and, decide_eq_true_eq, show (2 : Int) ^ 64 = 18446744073709551616 from rfl, show (2 : Int) ^ (64 - 1) = 9223372036854775808 from rfl]
  split <;> omega
theorem u8_id {x : Int} (h0 : 0 ≤ x) (h1 : x ≤ 255) : IntKind.u8.wrap x = x := by
  simp only [IntKind.wrap, IntKind.signed, IntKind.bits, Bool.false_and, Bool.false_eq_true, if_false]
  omega
theorem All_eq : pick_All.f 20 = some [(1, 1), (1, 2), (1, 3), (2, 1), (2, 2), (2, 3), (3, 1), (3, 2), (3, 3)] := by kernel_rfl
theorem known_eq : law19_known.f 20 = some true := by kernel_rfl
theorem Right_cases (c : Int × Int × Int) : code_Right.f c = some 0 ∨ code_Right.f c = some 10 := by
  unfold code_Right.f
  simp only [cond_eq_ite, decide_eq_true_eq]
  (repeat' split) <;> simp
theorem ref10_eq (c : Int × Int × Int) : ref10_Right.f c = code_Right.f c := by
  unfold ref10_Right.f code_Right.f
  have : decide (254 < c.2.2) = decide (255 ≤ c.2.2) := decide_eq_decide.2 (by omega)
  rw [this]
theorem PRight_cases (c : Int × Int) : pick_Right.f c = some 0 ∨ pick_Right.f c = some 11 := by
  unfold pick_Right.f
  simp only [cond_eq_ite, decide_eq_true_eq]
  (repeat' split) <;> simp
theorem ref19_eq (c : Int × Int) : ref19_Right.f c = pick_Right.f c := rfl
theorem asks_eq (c : Int × Int × Int) (e : Int) (p : Int × Int) : law19_asks.f c e p = some true := by
  obtain ⟨n, k, b⟩ := c
  obtain ⟨d, q⟩ := p
  unfold law19_asks.f pick_Choose.f ref19_Choose.f
  simp only [ref19_eq, ref10_eq]
  have w0 : IntKind.i64.wrap 0 = 0 := rfl
  have w10 : IntKind.i64.wrap 10 = 10 := rfl
  have w11 : IntKind.i64.wrap 11 = 11 := rfl
  rcases Right_cases (n, k, b) with h | h
  · rcases PRight_cases (d, q) with h' | h'
    · simp only [h, h', Option.bind_some, pick_Choose_1.f, pick_Choose_2.f, pick_Choose_3.f, pick_Choose_4.f, pick_Choose_5.f, pick_Choose_6.f, code_Space.f, pick_Choose.j0, pick_Choose.j1, pick_Choose.j2, ref19_Choose.j0, cond_eq_ite, decide_eq_true_eq, Bool.not_eq_true', decide_eq_false_iff_not, Decidable.not_not, if_true]
      have h64 : (64 ≤ n) ∨ ¬ (64 ≤ n) := Decidable.em _
      (repeat' split) <;> simp_all <;> first | omega | (rw [if_neg (by omega)]; simp [w0])
    · simp [h, h', w10, w11]
  · rcases PRight_cases (d, q) with h' | h' <;> simp [h, h', w0, w10, w11]
/-! ### PickAsks -/
theorem w0 : IntKind.i64.wrap 0 = 0 := rfl
/-- A code that choices make is a code. -/
theorem Code_cases {n k b : Int} (n0 : 0 ≤ n) (n1 : n ≤ 255) (k0 : 0 ≤ k) (k1 : k ≤ 255) (b0 : 0 ≤ b) (b1 : b ≤ 255) : ∃ N K B, law10_Code.f n k b = some (N, K, B) ∧ 1 ≤ K ∧ K < N ∧ 2 ≤ N ∧ N ≤ 69 ∧ 0 ≤ B ∧ B < 255 := by
  have key : ∀ x : Int, 2 ≤ x → x ≤ 69 → ∃ N K B, law10_Code.j0 k b x = some (N, K, B) ∧ 1 ≤ K ∧ K < N ∧ 2 ≤ N ∧ N ≤ 69 ∧ 0 ≤ B ∧ B < 255 := by
    intro x h2 h69
    unfold law10_Code.j0
    rw [i64_id (x := x - 1) (by omega) (by omega), i64_id (x := k) (by omega) (by omega), i64_id (x := b) (by omega) (by omega), Int.tmod_eq_emod_of_nonneg k0, Int.tmod_eq_emod_of_nonneg b0]
    have e0 := Int.emod_nonneg k (b := x - 1) (by omega)
    have e1 := Int.emod_lt_of_pos k (b := x - 1) (by omega)
    rw [i64_id (x := 1 + k % (x - 1)) (by omega) (by omega)]
    refine ⟨x, 1 + k % (x - 1), b % 255, ?_, by omega, by omega, h2, h69, by omega, by omega⟩
    have : decide (x - 1 ≠ 0) = true := decide_eq_true (by omega)
    rw [this]; rfl
  unfold law10_Code.f
  rw [Int.tmod_eq_emod_of_nonneg n0, Int.tmod_eq_emod_of_nonneg k0, Int.tmod_eq_emod_of_nonneg n0, i64_id (x := k % 40) (by omega) (by omega), i64_id (x := 30 + k % 40) (by omega) (by omega), i64_id (x := n % 21) (by omega) (by omega), i64_id (x := 2 + n % 21) (by omega) (by omega)]
  cases hd : decide (n % 32 = 31)
  · exact key _ (by omega) (by omega)
  · exact key _ (by omega) (by omega)
theorem Right_ok {N K B : Int} (h1 : 1 ≤ K) (h2 : K < N) (h3 : N ≤ 255) (h4 : 0 ≤ B) (h5 : B < 255) : code_Right.f (N, K, B) = some 0 := by
  unfold code_Right.f
  simp only [cond_eq_ite, decide_eq_true_eq]
  rw [if_neg (by omega), if_neg (by omega), if_neg (by omega), if_neg (by omega), if_neg (by omega)]
theorem PRight_eq (d b : Int) : pick_Right.f (d, b) = some (if 0 ≤ d ∧ d ≤ 3 ∧ 0 ≤ b ∧ b ≤ 3 then 0 else 11) := by
  unfold pick_Right.f
  simp only [cond_eq_ite, decide_eq_true_eq]
  (repeat' split) <;> first | rfl | omega
def pD (N K e d : Int) : Int := if d = 0 then (if N ≤ 16 then 3 else if Int.tdiv (N - K + 1) 2 ≤ e then 2 else 1) else d
def pB (N b : Int) : Int := if b = 0 then (if 64 ≤ N then 1 else if N < 16 then 2 else 3) else b
theorem Choose_eq {N K B : Int} (h1 : 1 ≤ K) (h2 : K < N) (h3 : N ≤ 255) (h4 : 0 ≤ B) (h5 : B < 255) (e d b : Int) :
    pick_Choose.f (N, K, B) e (d, b) = some (if 0 ≤ d ∧ d ≤ 3 ∧ 0 ≤ b ∧ b ≤ 3 then ((pD N K e d, pB N b), 0) else ((0, 0), 11)) := by
  have hd0 := Int.tdiv_eq_ediv_of_nonneg (a := N - K + 1) (b := 2) (by omega)
  unfold pick_Choose.f
  simp only [Right_ok h1 h2 h3 h4 h5, PRight_eq, Option.bind_some]
  by_cases hr : 0 ≤ d ∧ d ≤ 3 ∧ 0 ≤ b ∧ b ≤ 3
  · simp only [if_pos hr]
    have hB : ∀ x, pick_Choose.j0 (N, K, B) e (d, b) x = some ((x, pB N b), 0) := by
      intro x
      unfold pick_Choose.j0 pick_Choose_4.f pick_Choose_5.f pick_Choose_6.f pick_Choose.j2 pB
      simp only [cond_eq_ite, decide_eq_true_eq, Option.bind_some]
      (repeat' split) <;> first | rfl | (exfalso; simp_all; done)
    unfold pick_Choose_1.f pick_Choose_2.f pick_Choose_3.f code_Space.f pick_Choose.j1 pD
    simp only [hB, Right_ok h1 h2 h3 h4 h5, Option.bind_some, decide_true, Bool.not_true, cond_false]
    rw [i64_id (x := N - K) (by omega) (by omega), i64_id (x := N - K + 1) (by omega) (by omega), i64_id (x := (N - K + 1).tdiv 2) (by omega) (by omega)]
    simp only [cond_eq_ite, decide_eq_true_eq, if_true]
    (repeat' split) <;> first | rfl | (exfalso; simp_all; done)
  · simp [if_neg hr]
/-! ### PickAsks -/
theorem PickAsks_eq (c : Int × Int × Int) (e : Int) (p : Int × Int) {n k b : Int} (x d : Int) (n0 : 0 ≤ n) (n1 : n ≤ 255) (k0 : 0 ≤ k) (k1 : k ≤ 255) (b0 : 0 ≤ b) (b1 : b ≤ 255) : law19_PickAsks.f 20 c e p n k b x d = some true := by
  obtain ⟨N, K, B, hy, _⟩ := Code_cases n0 n1 k0 k1 b0 b1
  unfold law19_PickAsks.f
  simp [hy, known_eq, asks_eq]
/-! ### PickAll -/
theorem PickAll_eq {a : Int} (h0 : 0 ≤ a) : law19_PickAll.f 20 a = some true := by
  have hl : law19_PickAll.l0 20 [(1, 1), (1, 2), (1, 3), (2, 1), (2, 2), (2, 3), (3, 1), (3, 2), (3, 3)] 0 = some true := by kernel_rfl
  unfold law19_PickAll.f
  rw [All_eq, Int.tmod_eq_emod_of_nonneg h0]
  have hd : decide ((0 : Int) ≤ a % 9 ∧ a % 9 < ((9 : Nat) : Int)) = true := decide_eq_true (by omega)
  simp only [Option.bind_some, List.length_cons, List.length_nil, Nat.reduceAdd, hd, hl]
  rfl
/-! ### PickErrors -/
theorem PickErrors_eq {n k b : Int} (d e r : Int) (n0 : 0 ≤ n) (n1 : n ≤ 255) (k0 : 0 ≤ k) (k1 : k ≤ 255) (b0 : 0 ≤ b) (b1 : b ≤ 255) : law19_PickErrors.f 20 n k b d e r = some true := by
  obtain ⟨N, K, B, hy, h1, h2, _, h3, h4, h5⟩ := Code_cases n0 n1 k0 k1 b0 b1
  have hbad : pick_Choose.f (N, 0, B) r (d, e) = some ((0, 0), 10) := by
    unfold pick_Choose.f code_Right.f
    rfl
  have key : law19_PickErrors.j0 20 d e r (N, K, B) (decide (0 ≤ d ∧ d ≤ 3 ∧ 0 ≤ e ∧ e ≤ 3)) = some true := by
    unfold law19_PickErrors.j0
    simp only [hbad, Choose_eq h1 h2 (by omega : N ≤ 255) h4 h5, known_eq, Option.bind_some, PRight_eq]
    by_cases hr : 0 ≤ d ∧ d ≤ 3 ∧ 0 ≤ e ∧ e ≤ 3
    · simp [hr]
    · simp [hr]
  unfold law19_PickErrors.f
  rw [hy]
  simp only [Option.bind_some, cond_eq_ite, decide_eq_true_eq]
  (repeat' split) <;> refine Eq.trans ?_ key <;> first | exact congrArg _ (decide_eq_decide.2 (by omega)) | exact congrArg _ (decide_eq_false (by omega)).symm
/-! ### PickMore -/
theorem PickMore_eq {n k b m l : Int} (n0 : 0 ≤ n) (n1 : n ≤ 255) (k0 : 0 ≤ k) (k1 : k ≤ 255) (b0 : 0 ≤ b) (b1 : b ≤ 255) (m0 : 0 ≤ m) (m1 : m ≤ 255) (l0 : 0 ≤ l) (l1 : l ≤ 255) : law19_PickMore.f 20 n k b m l = some true := by
  obtain ⟨N, K, B, hy, h1, h2, _, h3, h4, h5⟩ := Code_cases n0 n1 k0 k1 b0 b1
  unfold law19_PickMore.f
  rw [hy, i64_id (x := m) (by omega) (by omega), i64_id (x := l) (by omega) (by omega), i64_id (x := m + l) (by omega) (by omega)]
  simp only [Choose_eq h1 h2 (by omega : N ≤ 255) h4 h5, known_eq, Option.bind_some]
  simp only [pD, Int.le_refl, true_and, show (0 : Int) ≤ 3 by omega, if_true, cond_eq_ite, decide_eq_true_eq, decide_true, and_self]
  by_cases h16 : N ≤ 16
  · simp [h16]
  · simp only [if_neg h16]
    by_cases ha : (N - K + 1).tdiv 2 ≤ m
    · have hb : (N - K + 1).tdiv 2 ≤ m + l := by omega
      simp [ha, hb]
    · by_cases hb : (N - K + 1).tdiv 2 ≤ m + l <;> simp [ha, hb]
/-! ### PickKeeps -/
theorem PickKeeps_eq {n k b d : Int} (r : Int) (n0 : 0 ≤ n) (n1 : n ≤ 255) (k0 : 0 ≤ k) (k1 : k ≤ 255) (b0 : 0 ≤ b) (b1 : b ≤ 255) (d0 : 0 ≤ d) (d1 : d ≤ 255) : law19_PickKeeps.f 20 n k b r d = some true := by
  obtain ⟨N, K, B, hy, h1, h2, h20, h3, h4, h5⟩ := Code_cases n0 n1 k0 k1 b0 b1
  unfold law19_PickKeeps.f
  rw [hy, Int.tmod_eq_emod_of_nonneg d0, Int.tdiv_eq_ediv_of_nonneg d0, u8_id (x := d / 4) (by omega) (by omega), Int.tmod_eq_emod_of_nonneg (by omega : 0 ≤ d / 4), i64_id (x := d % 4) (by omega) (by omega), i64_id (x := d / 4 % 4) (by omega) (by omega)]
  have key : ∀ p q : Int, 0 ≤ p → p ≤ 3 → 0 ≤ q → q ≤ 3 → d % 4 = p → d / 4 % 4 = q → ((pick_Choose.f (N, K, B) r (p, q)).bind fun x5 => (pick_Choose.f (N, K, B) r (x5.1.1, x5.1.2)).bind fun x8 => (pick_All.f 20).bind fun x11 => law19_PickKeeps.l0 20 d x5 x8 x11 0 0) = some true := by
    intro p q p0 p3 q0 q3 hp hq
    have hD : (pD N K r p = 1 ∨ pD N K r p = 2 ∨ pD N K r p = 3) ∧ (p = 0 ∨ pD N K r p = p) := by
      unfold pD
      (repeat' split) <;> omega
    have hB : (pB N q = 1 ∨ pB N q = 2 ∨ pB N q = 3) ∧ (q = 0 ∨ pB N q = q) := by
      unfold pB
      (repeat' split) <;> omega
    have hDD : pD N K r (pD N K r p) = pD N K r p := by
      generalize hx : pD N K r p = x at hD
      unfold pD
      rw [if_neg (by omega)]
    have hBB : pB N (pB N q) = pB N q := by
      generalize hx : pB N q = x at hB
      unfold pB
      rw [if_neg (by omega)]
    rw [Choose_eq h1 h2 (by omega) h4 h5, if_pos ⟨p0, p3, q0, q3⟩]
    simp only [Option.bind_some]
    rw [Choose_eq h1 h2 (by omega) h4 h5, if_pos (by omega), hDD, hBB, All_eq]
    simp only [Option.bind_some]
    generalize hx : pD N K r p = x at hD
    generalize hz : pB N q = z at hB
    have fin : law19_PickKeeps.j0 11 d ((x, z), 0) ((x, z), 0) 1 = some true := by
      unfold law19_PickKeeps.j0
      have hk : law19_known.f 11 = some true := by kernel_rfl
      rw [hk, Int.tmod_eq_emod_of_nonneg d0, Int.tdiv_eq_ediv_of_nonneg d0, u8_id (x := d / 4) (by omega) (by omega), Int.tmod_eq_emod_of_nonneg (by omega : 0 ≤ d / 4), i64_id (x := d % 4) (by omega) (by omega), i64_id (x := d / 4 % 4) (by omega) (by omega), hp, hq]
      have e1 := hD.2
      have e2 := hB.2
      simp only [Option.bind_some, cond_eq_ite, decide_eq_true_eq, beq_self_eq_true, Bool.and_self, if_true, decide_true]
      (repeat' split) <;> simp <;> omega
    obtain ⟨hD1, _⟩ := hD
    obtain ⟨hB1, _⟩ := hB
    rcases hD1 with rfl | rfl | rfl <;> rcases hB1 with rfl | rfl | rfl <;> exact fin
  exact key _ _ (by omega) (by omega) (by omega) (by omega) rfl rfl
end Go.Proofs.Ythfhhnlnlcbckaa.Gw
