/- The card of the law that what a desk encodes is read back from what it tells: a part of its proof. The conditions are those of the statement. -/
import Derived.Test.YtkndgkbgbmhjoaaGreatDoorQ2
import Derived.Test.YtkndgkbgbmhjoaaGreatDoorQ6
import Derived.Laws.Bits64b
namespace Go.Proofs.YtkndgkbgbmhjoaaGreatDoor.Gw
open Go Go.RowKit
set_option linter.unusedSimpArgs false
set_option linter.unusedVariables false
theorem i64_id {x : Int} (h0 : -9223372036854775808 ≤ x) (h1 : x ≤ 9223372036854775807) : IntKind.i64.wrap x = x := by
 have h : (2 : Int) ^ 64 = 18446744073709551616 := rfl
 simp only [IntKind.wrap, IntKind.signed, IntKind.bits, Bool.true_and, decide_eq_true_eq, show (2 : Int) ^ 64 = 18446744073709551616 from rfl, show (2 : Int) ^ (64 - 1) = 9223372036854775808 from rfl]
 split <;> omega
theorem u8_id {x : Int} (h0 : 0 ≤ x) (h1 : x ≤ 255) : IntKind.u8.wrap x = x := by
 simp only [IntKind.wrap, IntKind.signed, IntKind.bits, Bool.false_and, Bool.false_eq_true, if_false]
 omega
theorem u64_id {x : Int} (h0 : 0 ≤ x) (h1 : x ≤ 18446744073709551615) : IntKind.u64.wrap x = x := by
 simp only [IntKind.wrap, IntKind.signed, IntKind.bits, Bool.false_and, Bool.false_eq_true, if_false]
 omega
theorem u16_id {x : Int} (h0 : 0 ≤ x) (h1 : x ≤ 65535) : IntKind.u16.wrap x = x := by
 simp only [IntKind.wrap, IntKind.signed, IntKind.bits, Bool.false_and, Bool.false_eq_true, if_false]
 omega
theorem bifT {α : Type} {p : Prop} [Decidable p] (h : p) (x y : α) : (bif decide p then x else y) = x := by simp [h]
theorem bifF {α : Type} {p : Prop} [Decidable p] (h : ¬ p) (x y : α) : (bif decide p then x else y) = y := by simp [h]
theorem bifNT {α : Type} {p : Prop} [Decidable p] (h : ¬ p) (x y : α) : (bif !decide p then x else y) = x := by simp [h]
theorem bifNF {α : Type} {p : Prop} [Decidable p] (h : p) (x y : α) : (bif !decide p then x else y) = y := by simp [h]
theorem grdT {α : Type} {p : Prop} [Decidable p] (h : p) (x : Option α) : grd (decide p) x = x := by simp [grd, h]
theorem at_nat {α : Type} {z : α} {l : List α} {n : Nat} (h : n < l.length) : at_ z l (n : Int) = l[n] := by simp [at_, List.getD, h]
theorem wrap1 {n : Nat} (h : n < 4611686018427387904) : IntKind.i64.wrap ((n : Int) + 1) = ((n + 1 : Nat) : Int) := by rw [i64_id (by omega) (by omega)]; omega
theorem wrapN {n : Nat} (h : n < 4611686018427387904) : IntKind.i64.wrap (n : Int) = (n : Int) := i64_id (by omega) (by omega)
def tzN : Nat → Nat → Nat
 | 0, _ => 0
 | f + 1, x => if x % 2 = 1 then 0 else 1 + tzN f (x / 2)
theorem tz_ok {n : Nat} (hn : n < 256) (h0 : n ≠ 0) : math_bits_TrailingZeros.f (n : Int) = some ((tzN 8 n : Nat) : Int) ∧ tzN 8 n < 8 ∧ (n &&& (n - 1)) + 2 ^ tzN 8 n = n ∧ (n &&& (n - 1)) ^^^ 2 ^ tzN 8 n = n ∧ (n &&& (n - 1)) % 2 ^ tzN 8 n = 0 := by
 have h : all256 (fun n => Nat.beq n 0 || (decide (math_bits_TrailingZeros.f (n : Int) = some ((tzN 8 n : Nat) : Int)) && (Nat.blt (tzN 8 n) 8 && (Nat.beq ((n &&& (n - 1)) + 2 ^ tzN 8 n) n && (Nat.beq ((n &&& (n - 1)) ^^^ 2 ^ tzN 8 n) n && Nat.beq ((n &&& (n - 1)) % 2 ^ tzN 8 n) 0))))) = true := by decide +kernel
 have h1 := all256_spec h hn
 simp only [Bool.or_eq_true, Bool.and_eq_true, decide_eq_true_eq, Nat.beq_eq, Nat.blt_eq] at h1
 rcases h1 with h1 | h1
 · exact absurd h1 h0
 · exact h1
theorem tz_ge {n l : Nat} (hn : n < 256) (h0 : n ≠ 0) (hl : l < 9) (h : n % 2 ^ l = 0) : l ≤ tzN 8 n := by
 have hc : all256 (fun n => Nat.beq n 0 || (List.range 9).all fun l => !(Nat.beq (n % 2 ^ l) 0) || Nat.ble l (tzN 8 n)) = true := by decide +kernel
 have h1 := all256_spec hc hn
 rw [Bool.or_eq_true] at h1
 rcases h1 with h1 | h1
 · exact absurd (Nat.eq_of_beq_eq_true h1) h0
 · have h2 := List.all_eq_true.1 h1 l (List.mem_range.2 hl)
   simp only [Bool.or_eq_true, Bool.not_eq_true', Nat.ble_eq] at h2
   rcases h2 with h2 | h2
   · rw [h] at h2; cases h2
   · exact h2
theorem and_byte {n : Nat} (hn : n < 256) (h0 : n ≠ 0) : bits .and .u64 (n : Int) (IntKind.u64.wrap ((n : Int) - 1)) = ((n &&& (n - 1) : Nat) : Int) := by
 have e : IntKind.u64.wrap ((n : Int) - 1) = ((n - 1 : Nat) : Int) := by rw [u64_id (by omega) (by omega)]; omega
 rw [e, bits_and_u64_nat _ _ (by omega) (by omega)]
theorem xor16 (a b : Nat) (ha : a < 65536) (hb : b < 65536) : bits .xor .u16 (a : Int) (b : Int) = ((a ^^^ b : Nat) : Int) := by
 have hx : a ^^^ b < 2 ^ 16 := Nat.xor_lt_two_pow (by omega) (by omega)
 have h1 : (BitVec.ofInt 16 (a : Int)).toNat = a := by
   rw [BitVec.ofInt_natCast, BitVec.toNat_ofNat]; exact Nat.mod_eq_of_lt (by omega)
 have h2 : (BitVec.ofInt 16 (b : Int)).toNat = b := by
   rw [BitVec.ofInt_natCast, BitVec.toNat_ofNat]; exact Nat.mod_eq_of_lt (by omega)
 show IntKind.u16.wrap ((BitVec.ofInt 16 (a : Int) ^^^ BitVec.ofInt 16 (b : Int)).toNat : Int) = _
 rw [BitVec.toNat_xor, h1, h2, u16_id (by omega) (by omega)]
def clR : Nat → Nat → Nat → Nat
 | 0, _, _ => 0
 | f + 1, a, n => (if n % 2 = 1 then a else 0) ^^^ clR f (2 * a) (n / 2)
theorem clR_zero : ∀ (f a : Nat), clR f a 0 = 0
 | 0, _ => rfl
 | f + 1, a => by rw [clR]; simp [clR_zero f]
theorem clR_xor : ∀ (f a b c : Nat), clR f a (b ^^^ c) = clR f a b ^^^ clR f a c
 | 0, _, _, _ => by simp [clR]
 | f + 1, a, b, c => by
   have h1 : (b ^^^ c) / 2 = b / 2 ^^^ c / 2 := by
     have := @Nat.xor_div_two_pow b c 1; simpa using this
   have h2 : (b ^^^ c) % 2 = (b % 2) ^^^ (c % 2) := by
     have := @Nat.xor_mod_two_pow b c 1; simpa using this
   rw [clR, clR, clR, h1, clR_xor f, h2]
   have hb := Nat.mod_two_eq_zero_or_one b
   have hc := Nat.mod_two_eq_zero_or_one c
   rcases hb with hb | hb <;> rcases hc with hc | hc <;> simp [hb, hc]
   · exact xlc _ _ _
   · rw [Nat.xor_assoc]
   · rw [xlc, ← Nat.xor_assoc a, ← Nat.xor_assoc a, Nat.xor_self, Nat.zero_xor]
theorem clR_pow (f a t : Nat) (h : t < f) : clR f a (2 ^ t) = a * 2 ^ t := by
 induction f generalizing a t with
 | zero => omega
 | succ f ih =>
   rw [clR]
   cases t with
   | zero => simp [clR_zero]
   | succ t =>
     have h1 : 2 ^ (t + 1) % 2 = 0 := by rw [Nat.pow_succ]; omega
     have h2 : 2 ^ (t + 1) / 2 = 2 ^ t := by rw [Nat.pow_succ]; omega
     rw [if_neg (by omega), h2, ih _ _ (by omega), Nat.zero_xor, Nat.pow_succ, Nat.mul_comm 2 a, Nat.mul_assoc, Nat.mul_comm 2]
theorem clR_lt : ∀ (f a n m : Nat), a * 2 ^ f ≤ 2 ^ m → clR f a n < 2 ^ m
 | 0, _, _, m, _ => by rw [clR]; exact Nat.two_pow_pos m
 | f + 1, a, n, m, h => by
   rw [clR]
   have h1 : 2 * a * 2 ^ f = a * 2 ^ (f + 1) := by rw [Nat.pow_succ, Nat.mul_comm 2 a, Nat.mul_assoc, Nat.mul_comm 2]
   refine Nat.xor_lt_two_pow ?_ (clR_lt f (2 * a) _ m (by rw [h1]; exact h))
   split
   · have h2 : a * 2 ≤ a * 2 ^ (f + 1) := Nat.mul_le_mul_left a (by rw [Nat.pow_succ]; have := Nat.two_pow_pos f; omega)
     have h3 := Nat.two_pow_pos m
     by_cases ha : a = 0
     · subst ha; exact h3
     · omega
   · exact Nat.two_pow_pos m
theorem clR_lt15 {a : Nat} (n : Nat) (ha : a < 256) : clR 8 a n < 65536 := clR_lt 8 a n 16 (by omega)
theorem wide_l0 {a : Nat} (ha : a < 256) : ∀ (m k x n : Nat), n ≤ m → n < 256 → m < k → x < 65536 → shift_Wide.l0 k (a : Int) (x : Int) (n : Int) = some ((x ^^^ clR 8 a n : Nat) : Int)
 | m, 0, _, _, _, _, h, _ => by omega
 | 0, k + 1, x, n, hnm, hn, hk, hx => by
   obtain rfl : n = 0 := by omega
   rw [shift_Wide.l0, bifNF (by rfl), clR_zero, Nat.xor_zero]
 | m + 1, k + 1, x, n, hnm, hn, hk, hx => by
   by_cases h0 : n = 0
   · subst h0; rw [shift_Wide.l0, bifNF (by rfl), clR_zero, Nat.xor_zero]
   · obtain ⟨e1, l1, e2, e3, _⟩ := tz_ok hn h0
     have hp : a * 2 ^ tzN 8 n < 65536 := by
       have h1 : 2 ^ tzN 8 n ≤ 2 ^ 7 := Nat.pow_le_pow_right (by decide) (by omega)
       have : a * 2 ^ tzN 8 n ≤ 255 * 2 ^ 7 := Nat.mul_le_mul (by omega) h1
       omega
     have hs : IntKind.u16.wrap (IntKind.u16.wrap (a : Int) * 2 ^ (min ((tzN 8 n : Nat) : Int).toNat 16)) = ((a * 2 ^ tzN 8 n : Nat) : Int) := by
       rw [u16_id (x := (a : Int)) (by omega) (by omega)]
       have : min ((tzN 8 n : Nat) : Int).toNat 16 = tzN 8 n := by omega
       have hc : ((a * 2 ^ tzN 8 n : Nat) : Int) = (a : Int) * 2 ^ tzN 8 n := by simp
       rw [this, ← hc, u16_id (by omega) (by omega)]
     rw [shift_Wide.l0, bifNT (by omega), e1, Option.bind_some, grdT (by omega), hs, xor16 _ _ hx hp, and_byte hn h0]
     have hlt : n &&& (n - 1) < n := by have := Nat.two_pow_pos (tzN 8 n); omega
     rw [wide_l0 ha m k _ _ (by omega) (by omega) (by omega) (Nat.xor_lt_two_pow (n := 16) hx hp), Nat.xor_assoc, ← clR_pow 8 a _ l1, ← clR_xor, Nat.xor_comm (2 ^ _), e3]
theorem len_byte {w : Nat} (hw : w < 256) : math_bits_Len16.f (w : Int) = some (sat h_str0 (w : Int)) ∧ ∃ L : Nat, sat h_str0 (w : Int) = L ∧ w < 2 ^ L ∧ (0 < L → 2 ^ (L - 1) ≤ w) ∧ L ≤ 8 := by
 have hc : all256 (fun w => Nat.blt w (2 ^ (sat h_str0 (w : Int)).toNat) && (Nat.beq (sat h_str0 (w : Int)).toNat 0 || Nat.ble (2 ^ ((sat h_str0 (w : Int)).toNat - 1)) w) && Nat.ble (sat h_str0 (w : Int)).toNat 8 && decide (math_bits_Len16.f (w : Int) = some (sat h_str0 (w : Int))) && decide (0 ≤ sat h_str0 (w : Int))) = true := by decide +kernel
 have h1 := all256_spec hc hw
 simp only [Bool.or_eq_true, Bool.and_eq_true, decide_eq_true_eq, Nat.beq_eq, Nat.blt_eq, Nat.ble_eq] at h1
 obtain ⟨⟨⟨⟨h1, h2⟩, h3⟩, h4⟩, h5⟩ := h1
 exact ⟨h4, _, (Int.toNat_of_nonneg h5).symm, h1, fun h => h2.resolve_left (by omega), h3⟩
theorem len16 {w : Nat} (hw : w < 65536) : ∃ L : Nat, math_bits_Len16.f (w : Int) = some (L : Int) ∧ w < 2 ^ L ∧ (0 < L → 2 ^ (L - 1) ≤ w) ∧ L ≤ 16 := by
 by_cases h : w < 256
 · obtain ⟨e, L, e1, h1, h2, h3⟩ := len_byte h
   exact ⟨L, by rw [e, e1], h1, h2, by omega⟩
 · obtain ⟨_, L, e1, h1, h2, h3⟩ := len_byte (w := w / 256) (by omega)
   have hd : IntKind.u8.wrap (Int.fdiv (w : Int) (2 ^ (min (8 : Int).toNat 16))) = ((w / 256 : Nat) : Int) := by
     have : Int.fdiv (w : Int) (2 ^ (min (8 : Int).toNat 16)) = ((w / 256 : Nat) : Int) := by
       show Int.fdiv (w : Int) 256 = _
       rw [Int.fdiv_eq_ediv_of_nonneg _ (by decide)]; omega
     rw [this, u8_id (by omega) (by omega)]
   have hsz : ((h_str0.size : Nat) : Int) = 256 := by decide +kernel
   have hL0 : 0 < L := by
     rcases Nat.eq_zero_or_pos L with h0 | h0
     · subst h0; simp at h1; omega
     · exact h0
   refine ⟨8 + L, ?_, ?_, fun _ => ?_, by omega⟩
   · unfold math_bits_Len16.f
     rw [bifT (by omega), hd, hsz, grdT (by omega), e1, i64_id (x := (L : Int)) (by omega) (by omega), i64_id (by omega) (by omega)]; rfl
   · rw [Nat.pow_add]; have := Nat.div_lt_iff_lt_mul (k := 256) (x := w) (y := 2 ^ L) (by decide); omega
   · have h4 := h2 hL0
     have e : 8 + L - 1 = 8 + (L - 1) := by omega
     rw [e, Nat.pow_add]; have := (Nat.le_div_iff_mul_le (k := 256) (x := 2 ^ (L - 1)) (y := w) (by decide)).1 h4; omega
def redN (w : Nat) : Nat := gmR 16 1 w
theorem redN_byte {w : Nat} (hw : w < 256) : redN w = w := by
 have : all256 (fun w => Nat.beq (redN w) w) = true := by decide +kernel
 exact Nat.eq_of_beq_eq_true (all256_spec this hw)
theorem redN_mod {j : Nat} (h : j < 8) : redN (285 * 2 ^ j) = 0 := by
 have : (List.range 8).all (fun j => Nat.beq (redN (285 * 2 ^ j)) 0) = true := by decide +kernel
 exact Nat.eq_of_beq_eq_true (List.all_eq_true.1 this j (List.mem_range.2 h))
theorem top_xor {x y t : Nat} (hx0 : 2 ^ t ≤ x) (hx : x < 2 ^ (t + 1)) (hy0 : 2 ^ t ≤ y) (hy : y < 2 ^ (t + 1)) : x ^^^ y < 2 ^ t := by
 obtain ⟨a, rfl⟩ : ∃ a, x = 2 ^ t + a := ⟨x - 2 ^ t, by omega⟩
 obtain ⟨b, rfl⟩ : ∃ b, y = 2 ^ t + b := ⟨y - 2 ^ t, by omega⟩
 rw [Nat.pow_succ] at hx hy
 have ha : a < 2 ^ t := by omega
 have hb : b < 2 ^ t := by omega
 have e1 : 2 ^ t + a = 2 ^ t ^^^ a := by
   have := Nat.two_pow_add_eq_or_of_lt ha 1
   apply Nat.eq_of_testBit_eq; intro i
   rw [Nat.testBit_xor]
   by_cases hi : i < t
   · rw [Nat.testBit_two_pow_add_gt hi, Nat.testBit_two_pow_of_ne (by omega)]; simp
   · by_cases hi2 : i = t
     · subst hi2; rw [Nat.testBit_two_pow_add_eq, Nat.testBit_two_pow_self, Nat.testBit_lt_two_pow ha]; simp
     · rw [Nat.testBit_lt_two_pow (x := 2 ^ t + a) (i := i) (Nat.lt_of_lt_of_le (by omega : 2 ^ t + a < 2 ^ (t + 1)) (Nat.pow_le_pow_right (by decide) (by omega))), Nat.testBit_two_pow_of_ne (by omega), Nat.testBit_lt_two_pow (x := a) (i := i) (Nat.lt_of_lt_of_le ha (Nat.pow_le_pow_right (by decide) (by omega)))]; rfl
 have e2 : 2 ^ t + b = 2 ^ t ^^^ b := by
   apply Nat.eq_of_testBit_eq; intro i
   rw [Nat.testBit_xor]
   by_cases hi : i < t
   · rw [Nat.testBit_two_pow_add_gt hi, Nat.testBit_two_pow_of_ne (by omega)]; simp
   · by_cases hi2 : i = t
     · subst hi2; rw [Nat.testBit_two_pow_add_eq, Nat.testBit_two_pow_self, Nat.testBit_lt_two_pow hb]; simp
     · rw [Nat.testBit_lt_two_pow (x := 2 ^ t + b) (i := i) (Nat.lt_of_lt_of_le (by omega : 2 ^ t + b < 2 ^ (t + 1)) (Nat.pow_le_pow_right (by decide) (by omega))), Nat.testBit_two_pow_of_ne (by omega), Nat.testBit_lt_two_pow (x := b) (i := i) (Nat.lt_of_lt_of_le hb (Nat.pow_le_pow_right (by decide) (by omega)))]; rfl
 rw [e1, e2, Nat.xor_assoc, xlc a, ← Nat.xor_assoc, Nat.xor_self, Nat.zero_xor]
 exact Nat.xor_lt_two_pow ha hb
theorem red_l0 : ∀ (m k w L : Nat), w ≤ m → w < 65536 → m < k → math_bits_Len16.f (w : Int) = some (L : Int) → w < 2 ^ L → (0 < L → 2 ^ (L - 1) ≤ w) → L ≤ 16 → shift_Reduce.l0 k (w : Int) (L : Int) = some ((redN w : Nat) : Int)
 | m, 0, _, _, _, _, h, _, _, _, _ => by omega
 | m, k + 1, w, L, hm, hw, hk, hL, h1, h2, h3 => by
   by_cases h8 : 8 < L
   · have ej : IntKind.i64.wrap (IntKind.i64.wrap ((L : Int) - 1) - 8) = ((L - 9 : Nat) : Int) := by
       rw [i64_id (x := (L : Int) - 1) (by omega) (by omega), i64_id (by omega) (by omega)]; omega
     have hp : 285 * 2 ^ (L - 9) < 65536 := by
       have : 2 ^ (L - 9) ≤ 2 ^ 7 := Nat.pow_le_pow_right (by decide) (by omega)
       omega
     have hs : IntKind.u16.wrap (285 * 2 ^ (min (((L - 9 : Nat) : Int)).toNat 16)) = ((285 * 2 ^ (L - 9) : Nat) : Int) := by
       have : min (((L - 9 : Nat) : Int)).toNat 16 = L - 9 := by omega
       have hc : ((285 * 2 ^ (L - 9) : Nat) : Int) = (285 : Int) * 2 ^ (L - 9) := by simp
       rw [this, ← hc, u16_id (by omega) (by omega)]
     have e9 : 2 ^ (L - 1) = 256 * 2 ^ (L - 9) := by rw [show L - 1 = 8 + (L - 9) by omega, Nat.pow_add]
     have e10 : 2 ^ L = 2 * 2 ^ (L - 1) := by conv => lhs; rw [show L = (L - 1) + 1 by omega, Nat.pow_succ, Nat.mul_comm]
     have hpos := Nat.two_pow_pos (L - 9)
     have hx : w ^^^ 285 * 2 ^ (L - 9) < 2 ^ (L - 1) := top_xor (h2 (by omega)) (by rw [Nat.pow_succ]; omega) (by omega) (by rw [Nat.pow_succ]; omega)
     have hlt : w ^^^ 285 * 2 ^ (L - 9) < w := Nat.lt_of_lt_of_le hx (h2 (by omega))
     obtain ⟨L', f1, f2, f3, f4⟩ := len16 (w := w ^^^ 285 * 2 ^ (L - 9)) (by omega)
     rw [shift_Reduce.l0, bifT (by omega), ej, grdT (by omega), hs, xor16 _ _ hw hp, f1, Option.bind_some]
     match m, hm, hk with
     | 0, hm, hk => omega
     | m + 1, hm, hk =>
       rw [red_l0 m k _ L' (by omega) (by omega) (by omega) f1 f2 f3 f4]
       unfold redN
       rw [gmR_xor_r]
       have := redN_mod (j := L - 9) (by omega)
       unfold redN at this
       rw [this, Nat.xor_zero]
   · have hb : w < 256 := Nat.lt_of_lt_of_le h1 (by have : 2 ^ L ≤ 2 ^ 8 := Nat.pow_le_pow_right (by decide) (by omega); omega)
     rw [shift_Reduce.l0, bifF (by omega), u8_id (by omega) (by omega), redN_byte hb]
theorem red_ok {k w : Nat} (hw : w < 65536) (hk : 65536 < k) : shift_Reduce.f k (w : Int) = some ((redN w : Nat) : Int) := by
 obtain ⟨L, f1, f2, f3, f4⟩ := len16 hw
 unfold shift_Reduce.f
 rw [f1, Option.bind_some, red_l0 w k w L (Nat.le_refl _) hw (by omega) f1 f2 f3 f4]
theorem gmR_two (f a b : Nat) : gmR (f + 1) a (2 * b) = gmR f (x2 a) b := by
 rw [gmR, if_neg (by omega), Nat.zero_xor]; congr 1; omega
theorem gmR_ext : ∀ (f a b : Nat), b < 2 ^ f → gmR (f + 1) a b = gmR f a b
 | 0, a, b, h => by
   obtain rfl : b = 0 := by simpa using h
   rw [gmR_zero, gmR_zero]
 | f + 1, a, b, h => by
   rw [gmR, gmR_ext f _ _ (by rw [Nat.pow_succ] at h; omega)]; conv => rhs; rw [gmR]
theorem red_dbl {b : Nat} (hb : b < 2 ^ 15) : redN (2 * b) = x2 (redN b) := by
 unfold redN
 rw [gmR_two, x2_gmR 16 _ (by decide), gmR_ext 15 _ _ hb]
theorem red_cl : ∀ (f a b : Nat), a * 2 ^ f < 2 ^ 16 → redN (clR f a b) = gmR f (redN a) b
 | 0, _, _, _ => by unfold redN; rw [clR, gmR, gmR_zero]
 | f + 1, a, b, h => by
   have h1 : 2 * a * 2 ^ f = a * 2 ^ (f + 1) := by rw [Nat.pow_succ, Nat.mul_comm 2 a, Nat.mul_assoc, Nat.mul_comm 2]
   have ha : a < 2 ^ 15 := by
     have h2 : a * 2 ≤ a * 2 ^ (f + 1) := Nat.mul_le_mul_left a (by rw [Nat.pow_succ]; have := Nat.two_pow_pos f; omega)
     omega
   rw [clR, gmR]
   have e : redN ((if b % 2 = 1 then a else 0) ^^^ clR f (2 * a) (b / 2)) = redN (if b % 2 = 1 then a else 0) ^^^ redN (clR f (2 * a) (b / 2)) := gmR_xor_r _ _ _ _
   rw [e, red_cl f (2 * a) _ (by rw [h1]; exact h)]
   have e2 : redN (2 * a) = x2 (redN a) := red_dbl ha
   rw [e2]
   congr 1
   split
   · rfl
   · exact gmR_zero _ _
theorem smul_ok {k a b : Nat} (ha : a < 256) (hb : b < 256) (hk : 65536 < k) : shift_Mul.f k (a : Int) (b : Int) = some ((gmN a b : Nat) : Int) := by
 unfold shift_Mul.f shift_Wide.f
 rw [u64_id (by omega) (by omega)]
 have := wide_l0 ha 255 k 0 b (by omega) hb (by omega) (by omega)
 rw [show ((0 : Nat) : Int) = 0 from rfl] at this
 rw [this, Option.bind_some, Nat.zero_xor, red_ok (clR_lt15 b ha) hk, Option.bind_some, red_cl 8 a b (by omega), redN_byte ha]; rfl
end Go.Proofs.YtkndgkbgbmhjoaaGreatDoor.Gw
