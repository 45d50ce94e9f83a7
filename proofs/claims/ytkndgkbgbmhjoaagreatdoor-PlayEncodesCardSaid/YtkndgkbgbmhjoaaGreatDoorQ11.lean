/- The card of the law that what a desk encodes is read back from what it tells: a part of its proof. The conditions are those of the statement. -/
import Derived.Test.YtkndgkbgbmhjoaaGreatDoorQ10
import Derived.Test.YtkndgkbgbmhjoaaGreatDoorQ7
import Derived.Laws.Bits64b
namespace Go.Proofs.YtkndgkbgbmhjoaaGreatDoor.Gw
open Go Go.RowKit
set_option linter.unusedSimpArgs false
set_option linter.unusedVariables false
theorem exps_at {n : Nat} (h : n < 510) : at_ 0 exps (n : Int) = (gpN 2 n : Nat) := by
 rw [at_nat (by rw [exps_len]; exact h)]; simp [exps]
theorem logs_at {n : Nat} (h : n < 256) : at_ 0 logs (n : Int) = (lgN n : Nat) := by
 rw [at_nat (by rw [logs_len]; exact h)]; simp [logs]
theorem log_ok {a : Nat} (ha : a < 256) (h0 : a ≠ 0) : table_Table_Log.f (a : Int) = some (((lgN a : Nat) : Int), true) := by
 unfold table_Table_Log.f
 rw [bifF (by omega), grdT (by omega), logs_at ha, wrapN (by have := (lg_ok ha h0).2; omega)]
theorem log_0 : table_Table_Log.f 0 = some (0, false) := by decide
theorem tmul_ok {a b : Nat} (ha : a < 256) (hb : b < 256) : table_Table_Mul.f (a : Int) (b : Int) = some ((gmN a b : Nat) : Int) := by
 unfold table_Table_Mul.f
 by_cases h0 : a = 0
 · subst h0
   by_cases h1 : b = 0
   · subst h1; decide
   · rw [show ((0 : Nat) : Int) = 0 from rfl, log_0, log_ok hb h1, gmN_zero_l hb]; rfl
 · by_cases h1 : b = 0
   · subst h1
     rw [show ((0 : Nat) : Int) = 0 from rfl, log_0, log_ok ha h0, gmN_zero_r]; rfl
   · obtain ⟨e1, l1⟩ := lg_ok ha h0
     obtain ⟨e2, l2⟩ := lg_ok hb h1
     rw [log_ok ha h0, log_ok hb h1]
     simp only [Option.bind_some, Bool.not_true, cond_false]
     have hw : IntKind.i64.wrap (((lgN a : Nat) : Int) + ((lgN b : Nat) : Int)) = ((lgN a + lgN b : Nat) : Int) := by rw [i64_id (by omega) (by omega)]; omega
     rw [hw, grdT (by omega), exps_at (by omega), gpN_add (by decide), e1, e2]
theorem least_ok {n : Int} (h0 : -9223372036854775808 ≤ n) (h1 : n ≤ 9223372036854775807) : table_least.f n = some (n % 255) := by
 unfold table_least.f
 have hlo := Int.emod_nonneg n (by decide : (255 : Int) ≠ 0)
 have hhi := Int.emod_lt_of_pos n (by decide : (0 : Int) < 255)
 have h : Int.tmod n 255 = n % 255 ∨ (Int.tmod n 255 = n % 255 - 255 ∧ Int.tmod n 255 < 0) := by
   by_cases hn : 0 ≤ n
   · left; rw [Int.tmod_eq_emod_of_nonneg hn]
   · have e : Int.tmod n 255 = -((-n) % 255) := by
       rw [← Int.tmod_eq_emod_of_nonneg (by omega : 0 ≤ -n), Int.neg_tmod]; omega
     omega
 rcases h with h | ⟨h, hn⟩
 · rw [bifF (by omega), h]
 · rw [bifT hn, i64_id (by omega) (by omega)]; congr 1; omega
theorem exp_ok {n : Int} (h0 : -9223372036854775808 ≤ n) (h1 : n ≤ 9223372036854775807) : table_Table_Exp.f n = some ((gpN 2 (n % 255).toNat : Nat) : Int) := by
 unfold table_Table_Exp.f
 have hlo := Int.emod_nonneg n (by decide : (255 : Int) ≠ 0)
 have hhi := Int.emod_lt_of_pos n (by decide : (0 : Int) < 255)
 rw [least_ok h0 h1, Option.bind_some, grdT (by omega)]
 obtain ⟨m, hm⟩ : ∃ m : Nat, n % 255 = m := ⟨(n % 255).toNat, by omega⟩
 rw [hm, exps_at (by omega)]; simp
theorem gpN_cong {a : Nat} (ha : a < 256) (h0 : a ≠ 0) {m n : Nat} (h : m % 255 = n % 255) : gpN a m = gpN a n := by
 rw [← gpN_mod ha h0 m, ← gpN_mod ha h0 n, h]
theorem tinv_ok {a : Nat} (ha : a < 256) : table_Table_Inv.f (a : Int) = some (if a = 0 then (0, false) else (((giN a : Nat) : Int), true)) := by
 unfold table_Table_Inv.f
 by_cases h0 : a = 0
 · subst h0; decide
 · obtain ⟨e1, l1⟩ := lg_ok ha h0
   rw [log_ok ha h0, if_neg h0]
   simp only [Option.bind_some, Bool.not_true, cond_false]
   rw [i64_id (by omega) (by omega), exp_ok (by omega) (by omega), Option.bind_some]
   have : gpN 2 (-((lgN a : Nat) : Int) % 255).toNat = giN a := by
     unfold giN
     conv => rhs; rw [← e1, ← gpN_mul (by decide)]
     exact gpN_cong (by decide) (by decide) (by omega)
   rw [this]
theorem tpow_ok {a : Nat} (ha : a < 256) {n : Int} (h0 : -9223372036854775808 ≤ n) (h1 : n ≤ 9223372036854775807) : table_Table_Pow.f (a : Int) n = some (gpw a n) := by
 unfold table_Table_Pow.f gpw
 by_cases ha0 : a = 0
 · subst ha0
   rw [show ((0 : Nat) : Int) = 0 from rfl, log_0]
   simp only [Option.bind_some, Bool.not_false, cond_true]
   by_cases hn : n = 0
   · subst hn; decide
   · simp [hn]
 · obtain ⟨e1, l1⟩ := lg_ok ha ha0
   have hlo := Int.emod_nonneg n (by decide : (255 : Int) ≠ 0)
   have hhi := Int.emod_lt_of_pos n (by decide : (0 : Int) < 255)
   rw [log_ok ha ha0, if_neg (by omega)]
   simp only [Option.bind_some, Bool.not_true, cond_false]
   by_cases hn : n = 0
   · subst hn; rw [bifT rfl]; rfl
   · rw [bifF hn]
     unfold table_Table_Pow.j0
     rw [least_ok h0 h1, Option.bind_some]
     obtain ⟨m, hm⟩ : ∃ m : Nat, n % 255 = m := ⟨(n % 255).toNat, by omega⟩
     rw [hm]
     have hmul : ((lgN a : Nat) : Int) * (m : Int) = ((lgN a * m : Nat) : Int) := by rw [Int.natCast_mul]
     have hle : lgN a * m ≤ 255 * 255 := Nat.mul_le_mul (by omega) (by omega)
     simp only [hmul]
     rw [i64_id (by omega) (by omega), exp_ok (by omega) (by omega), Option.bind_some]
     have : gpN 2 (((lgN a * m : Nat) : Int) % 255).toNat = gpN a m := by
       conv => rhs; rw [← e1, ← gpN_mul (by decide)]
       exact gpN_cong (by decide) (by decide) (by omega)
     rw [this]; simp
theorem pow_l1 : ∀ (r k a o l n i c : Nat), a < 256 → o < 256 → 65536 < k → i < 100 → i = l + c + r →
   shift_power.l1 (k + 1 + r) (o : Int) (l : Int) (n : Int) (i : Int) (a : Int) (c : Int) = shift_power.l0 k ((gpN a (2 ^ r) : Nat) : Int) ((gmN o (gpN a (2 ^ r)) : Nat) : Int) (i : Int) (bits .and .u64 (n : Int) (IntKind.u64.wrap ((n : Int) - 1)))
 | 0, k, a, o, l, n, i, c, ha, ho, hk, hi, h => by
   have e1 : gpN a (2 ^ 0) = a := by show gmN 1 a = a; exact gmN_one_l ha
   rw [Nat.add_zero, shift_power.l1, i64_id (x := (i : Int) - (l : Int)) (by omega) (by omega), bifF (by omega), smul_ok ho ha hk, Option.bind_some, e1]
 | r + 1, k, a, o, l, n, i, c, ha, ho, hk, hi, h => by
   have hc : IntKind.i64.wrap ((c : Int) + 1) = ((c + 1 : Nat) : Int) := wrap1 (by omega)
   rw [show k + 1 + (r + 1) = (k + 1 + r) + 1 by omega, shift_power.l1, i64_id (x := (i : Int) - (l : Int)) (by omega) (by omega), bifT (by omega), smul_ok ha ha (by omega), Option.bind_some, hc, pow_l1 r k (gmN a a) o l n i (c + 1) (gmN_lt _ ha) ho hk hi (by omega)]
   have e2 : gpN (gmN a a) (2 ^ r) = gpN a (2 ^ (r + 1)) := by
     have : gmN a a = gpN a 2 := by show _ = gmN (gmN 1 a) a; rw [gmN_one_l ha]
     rw [this, ← gpN_mul ha, Nat.pow_succ, Nat.mul_comm]
   rw [e2]
theorem pow_l0 {a0 : Nat} (h0 : a0 < 256) : ∀ (m k o l n : Nat), n ≤ m → n < 256 → 70000 + 20 * m < k → o < 256 → l < 9 → n % 2 ^ l = 0 →
   shift_power.l0 k ((gpN a0 (2 ^ l) : Nat) : Int) (o : Int) (l : Int) (n : Int) = some ((gmN o (gpN a0 n) : Nat) : Int)
 | m, 0, _, _, _, _, _, h, _, _, _ => by omega
 | 0, k + 1, o, l, n, hm, hn, hk, ho, hl, hd => by
   obtain rfl : n = 0 := by omega
   rw [shift_power.l0, bifNF (by rfl)]; show _ = some ((gmN o 1 : Nat) : Int); rw [gmN_one_r]
 | m + 1, k + 1, o, l, n, hm, hn, hk, ho, hl, hd => by
   by_cases hz : n = 0
   · subst hz; rw [shift_power.l0, bifNF (by rfl)]; show _ = some ((gmN o 1 : Nat) : Int); rw [gmN_one_r]
   · obtain ⟨e1, l1, e2, e3, e4⟩ := tz_ok hn hz
     have hge := tz_ge hn hz hl hd
     obtain ⟨k', rfl⟩ : ∃ k', k = k' + 1 + (tzN 8 n - l) := ⟨k - 1 - (tzN 8 n - l), by omega⟩
     have hlt : n &&& (n - 1) < n := by have := Nat.two_pow_pos (tzN 8 n); omega
     have e5 : gpN (gpN a0 (2 ^ l)) (2 ^ (tzN 8 n - l)) = gpN a0 (2 ^ tzN 8 n) := by
       rw [← gpN_mul h0, ← Nat.pow_add]; congr 2; omega
     have hp := pow_l1 (tzN 8 n - l) k' (gpN a0 (2 ^ l)) o l n (tzN 8 n) 0 (gpN_lt h0 _) ho (by omega) (by omega) (by omega)
     rw [show ((0 : Nat) : Int) = 0 from rfl] at hp
     rw [shift_power.l0, bifNT (by omega), e1, Option.bind_some, hp, e5, and_byte hn hz, pow_l0 h0 m k' _ _ _ (by omega) (by omega) (by omega) (gmN_lt _ ho) (by omega) e4]
     have e6 : gmN (gmN o (gpN a0 (2 ^ tzN 8 n))) (gpN a0 (n &&& (n - 1))) = gmN o (gpN a0 n) := by
       rw [gmN_assoc _ ho (gpN_lt h0 _), ← gpN_add h0, Nat.add_comm, e2]
     rw [e6]
theorem spower_ok {k a n : Nat} (ha : a < 256) (hn : n < 256) (hk : 80000 < k) : shift_power.f k (a : Int) (n : Int) = some ((gpN a n : Nat) : Int) := by
 unfold shift_power.f
 have h := pow_l0 ha 255 k 1 0 n (by omega) hn (by omega) (by decide) (by decide) (by omega)
 have e : gpN a (2 ^ 0) = a := by show gmN 1 a = a; exact gmN_one_l ha
 rw [e, gmN_one_l (gpN_lt ha n)] at h
 exact h
theorem sinv_ok {k a : Nat} (ha : a < 256) (hk : 80000 < k) : field_byShift_Inv.f k (a : Int) = some (if a = 0 then (0, false) else (((giN a : Nat) : Int), true)) := by
 unfold field_byShift_Inv.f shift_Inv.f
 by_cases h0 : a = 0
 · subst h0; rfl
 · have := spower_ok (k := k) ha (n := 254) (by decide) hk
   rw [bifF (by omega), show (254 : Int) = ((254 : Nat) : Int) from rfl, this, if_neg h0]; rfl
theorem spow_ok {k a : Nat} (ha : a < 256) (hk : 80000 < k) {n : Int} (h0 : -9223372036854775808 ≤ n) (h1 : n ≤ 9223372036854775807) : field_byShift_Pow.f k (a : Int) n = some (gpw a n) := by
 have hlo := Int.emod_nonneg n (by decide : (255 : Int) ≠ 0)
 have hhi := Int.emod_lt_of_pos n (by decide : (0 : Int) < 255)
 have j0 : shift_Pow.j0 k (a : Int) n = some ((gpN a (n % 255).toNat : Nat) : Int) := by
   obtain ⟨m, hm⟩ : ∃ m : Nat, n % 255 = m := ⟨(n % 255).toNat, by omega⟩
   have hj : shift_Pow.j1 k (a : Int) (m : Int) = some ((gpN a m : Nat) : Int) := by
     unfold shift_Pow.j1
     rw [u64_id (by omega) (by omega), spower_ok ha (by omega) hk]; rfl
   have hl := least_ok h0 h1
   unfold table_least.f at hl
   unfold shift_Pow.j0
   by_cases hn : Int.tmod n 255 < 0
   · rw [bifT hn] at hl ⊢
     rw [Option.some.inj hl, hm, hj]; simp
   · rw [bifF hn] at hl ⊢
     rw [Option.some.inj hl, hm, hj]; simp
 unfold field_byShift_Pow.f shift_Pow.f gpw
 by_cases ha0 : a = 0
 · subst ha0
   rw [bifT (by rfl)]
   by_cases hn : n = 0
   · subst hn; rw [bifNF rfl, j0]; rfl
   · rw [bifNT hn]; simp [hn]
 · rw [bifF (by omega), j0, if_neg (by omega)]; simp
theorem byts_at {l : List Int} (h : byts l = true) {j : Nat} (hj : j < l.length) : ∃ n : Nat, l[j] = n ∧ n < 256 := byt_nat (List.all_eq_true.1 h _ (List.getElem_mem hj))
theorem pairs_T : ∀ (d k j : Nat) (l m u : List Int), byts l = true → byts m = true → m.length = l.length → u.length = l.length → l.length < 4611686018427387904 → j + d = l.length → d < k →
   field_byTable_pairs.l0 k l m u (j : Int) = some (u.take j ++ (List.zipWith gm l m).drop j)
 | d, 0, _, _, _, _, _, _, _, _, _, _, h => by omega
 | 0, k + 1, j, l, m, u, hl, hm, e1, e2, h63, hj, hk => by
   obtain rfl : j = l.length := by omega
   rw [field_byTable_pairs.l0, bifF (by omega), List.take_of_length_le (by omega), List.drop_of_length_le (by simp; omega)]; simp
 | d + 1, k + 1, j, l, m, u, hl, hm, e1, e2, h63, hj, hk => by
   obtain ⟨a, ea, ha⟩ := byts_at hl (j := j) (by omega)
   obtain ⟨b, eb, hb⟩ := byts_at hm (j := j) (by omega)
   rw [field_byTable_pairs.l0, bifT (by omega), grdT (by omega), grdT (by omega), at_nat (by omega), at_nat (by omega), ea, eb, tmul_ok ha hb, Option.bind_some, grdT (by omega), wrap1 (by omega)]
   rw [pairs_T d k (j + 1) l m _ hl hm e1 (by simp [e2]) h63 (by omega) (by omega)]
   congr 1
   have hz : j < (List.zipWith gm l m).length := by simp; omega
   rw [List.drop_eq_getElem_cons hz, List.getElem_zipWith, ea, eb]
   have hu : (u.set (((j : Nat) : Int)).toNat ((gmN a b : Nat) : Int)).take (j + 1) = u.take j ++ [((gmN a b : Nat) : Int)] := by
     simp only [Int.toNat_natCast]
     rw [List.take_succ_eq_append_getElem (by simp; omega), List.take_set_of_le (Nat.le_refl _)]; simp
   rw [hu]; simp [gm]
theorem pairs_S : ∀ (d k j : Nat) (l m u : List Int), byts l = true → byts m = true → m.length = l.length → u.length = l.length → l.length < 4611686018427387904 → j + d = l.length → d + 65537 < k →
   field_byShift_pairs.l0 k l m u (j : Int) = some (u.take j ++ (List.zipWith gm l m).drop j)
 | d, 0, _, _, _, _, _, _, _, _, _, _, h => by omega
 | 0, k + 1, j, l, m, u, hl, hm, e1, e2, h63, hj, hk => by
   obtain rfl : j = l.length := by omega
   rw [field_byShift_pairs.l0, bifF (by omega), List.take_of_length_le (by omega), List.drop_of_length_le (by simp; omega)]; simp
 | d + 1, k + 1, j, l, m, u, hl, hm, e1, e2, h63, hj, hk => by
   obtain ⟨a, ea, ha⟩ := byts_at hl (j := j) (by omega)
   obtain ⟨b, eb, hb⟩ := byts_at hm (j := j) (by omega)
   have hmul : field_byShift_Mul.f k (a : Int) (b : Int) = some ((gmN a b : Nat) : Int) := by
     unfold field_byShift_Mul.f; rw [smul_ok ha hb (by omega)]; rfl
   rw [field_byShift_pairs.l0, bifT (by omega), grdT (by omega), grdT (by omega), at_nat (by omega), at_nat (by omega), ea, eb, hmul, Option.bind_some, grdT (by omega), wrap1 (by omega)]
   rw [pairs_S d k (j + 1) l m _ hl hm e1 (by simp [e2]) h63 (by omega) (by omega)]
   congr 1
   have hz : j < (List.zipWith gm l m).length := by simp; omega
   rw [List.drop_eq_getElem_cons hz, List.getElem_zipWith, ea, eb]
   have hu : (u.set (((j : Nat) : Int)).toNat ((gmN a b : Nat) : Int)).take (j + 1) = u.take j ++ [((gmN a b : Nat) : Int)] := by
     simp only [Int.toNat_natCast]
     rw [List.take_succ_eq_append_getElem (by simp; omega), List.take_set_of_le (Nat.le_refl _)]; simp
   rw [hu]; simp [gm]
theorem zip_min (l m : List Int) : List.zipWith gm (l.take (min l.length m.length)) (m.take (min l.length m.length)) = List.zipWith gm l m := by
 rw [← List.take_zipWith, List.take_of_length_le (by simp)]
theorem byts_take {l : List Int} (n : Nat) (h : byts l = true) : byts (l.take n) = true :=
 List.all_eq_true.2 fun x hx => List.all_eq_true.1 h x (List.mem_of_mem_take hx)
theorem fpairsT_ok {k : Nat} {l m : List Int} (hl : byts l = true) (hm : byts m = true) (hb : l.length ≤ 140737488355328) (hk : l.length < k) : field_Field_PairsT.f k l m = some (List.zipWith gm l m) := by
 unfold field_Field_PairsT.f
 have e : min2 (l.length : Int) (m.length : Int) = ((min l.length m.length : Nat) : Int) := by unfold min2; split <;> omega
 rw [e]
 by_cases h0 : min l.length m.length = 0
 · rw [bifT (by omega)]
   rcases Nat.min_eq_zero_iff.1 h0 with h | h
   · rw [List.length_eq_zero_iff.1 h]; rfl
   · rw [List.length_eq_zero_iff.1 h]; simp
 · rw [bifF (by omega), grdT (by omega), grdT (by omega)]
   simp only [Int.toNat_natCast, List.drop_zero]
   unfold field_byTable_pairs.f
   have hle : (l.take (min l.length m.length)).length = min l.length m.length := by simp
   have hle2 : (m.take (min l.length m.length)).length = min l.length m.length := by simp
   rw [grdT (by omega)]
   have := pairs_T (min l.length m.length) k 0 (l.take (min l.length m.length)) (m.take (min l.length m.length)) (List.replicate (((l.take (min l.length m.length)).length : Int)).toNat (0 : Int)) (byts_take _ hl) (byts_take _ hm) (by omega) (by simp) (by omega) (by omega) (by omega)
   rw [show ((0 : Nat) : Int) = 0 from rfl] at this
   rw [this, zip_min]; simp
theorem fpairsS_ok {k : Nat} {l m : List Int} (hl : byts l = true) (hm : byts m = true) (hb : l.length ≤ 140737488355328) (hk : l.length + 65540 < k) : field_Field_PairsS.f k l m = some (List.zipWith gm l m) := by
 unfold field_Field_PairsS.f
 have e : min2 (l.length : Int) (m.length : Int) = ((min l.length m.length : Nat) : Int) := by unfold min2; split <;> omega
 rw [e]
 by_cases h0 : min l.length m.length = 0
 · rw [bifT (by omega)]
   rcases Nat.min_eq_zero_iff.1 h0 with h | h
   · rw [List.length_eq_zero_iff.1 h]; rfl
   · rw [List.length_eq_zero_iff.1 h]; simp
 · rw [bifF (by omega), grdT (by omega), grdT (by omega)]
   simp only [Int.toNat_natCast, List.drop_zero]
   unfold field_byShift_pairs.f
   have hle : (l.take (min l.length m.length)).length = min l.length m.length := by simp
   have hle2 : (m.take (min l.length m.length)).length = min l.length m.length := by simp
   rw [grdT (by omega)]
   have := pairs_S (min l.length m.length) k 0 (l.take (min l.length m.length)) (m.take (min l.length m.length)) (List.replicate (((l.take (min l.length m.length)).length : Int)).toNat (0 : Int)) (byts_take _ hl) (byts_take _ hm) (by omega) (by simp) (by omega) (by omega) (by omega)
   rw [show ((0 : Nat) : Int) = 0 from rfl] at this
   rw [this, zip_min]; simp
end Go.Proofs.YtkndgkbgbmhjoaaGreatDoor.Gw
namespace Go.Proofs.YtkndgkbgbmhjoaaGreatDoor.Gw
open Go Go.RowKit
set_option linter.unusedSimpArgs false
set_option linter.unusedVariables false
set_option linter.unusedSectionVars false
variable [LibO]
theorem grd_some' {α : Type} {b : Bool} {x : Option α} {r : α} (h : grd b x = some r) : b = true ∧ x = some r := by
 unfold grd at h
 cases b with
 | true => exact ⟨rfl, h⟩
 | false => cases h
theorem fld_openT {w : World} {f : FD} {m : Bool} (h1 : ¬ f.p = 7) (hb : (Rs.blk f.p (fcT f) 150).inv w) (h2 : ¬ f.p = f.t) (ht : (Rs.tab f.t m).inv w) : St (Rs.fld f).fp w w [.blk f.p (fcT f) 150, .tab f.t m] := by
 refine ⟨.refl _ _, ?_, ?_, ?_⟩
 · intro r hr
   rcases List.mem_cons.1 hr with rfl | hr
   · exact hb
   · rw [List.mem_singleton.1 hr]; exact ht
 · intro r hr b hbf
   rcases List.mem_cons.1 hr with rfl | hr
   · exact .inr (.inl hbf)
   · rw [List.mem_singleton.1 hr] at hbf; exact .inr (.inr hbf)
 · refine List.pairwise_cons.2 ⟨fun s hs b x y => ?_, List.pairwise_singleton _ _⟩
   rw [List.mem_singleton.1 hs] at y
   have x' : b = f.p := x
   rcases (y : b = f.t ∨ b = 7) with y | y
   · exact h2 (x'.symm.trans y)
   · exact h1 (x'.symm.trans y)
theorem fld_closeT {X : Nat → Prop} {w0 w : World} {f : FD} {m : Bool} {R : List Rs} (hk : f.k = 1) (h1 : ¬ f.p = 7) (h2 : ¬ f.p = f.t) (H : St X w0 w (.blk f.p (fcT f) 150 :: .tab f.t m :: R)) : St X w0 w (.fld f :: R) := by
 have hb := H.get 0 rfl
 have ht := H.get 1 rfl
 obtain ⟨d1, d2⟩ := List.pairwise_cons.1 H.dj
 obtain ⟨d3, d4⟩ := List.pairwise_cons.1 d2
 refine ⟨H.ch, ?_, ?_, ?_⟩
 · intro r hr
   rcases List.mem_cons.1 hr with rfl | hr
   · exact ⟨ht.1, h1, .inl ⟨hk, hb, h2, m, ht⟩⟩
   · exact H.inv r (List.mem_cons_of_mem _ (List.mem_cons_of_mem _ hr))
 · intro r hr b hbf
   rcases List.mem_cons.1 hr with rfl | hr
   · rcases (hbf : b = f.p ∨ b = f.t ∨ b = 7) with x | x
     · exact H.fp _ List.mem_cons_self b x
     · exact H.fp _ (List.mem_cons_of_mem _ List.mem_cons_self) b x
   · exact H.fp r (List.mem_cons_of_mem _ (List.mem_cons_of_mem _ hr)) b hbf
 · refine List.pairwise_cons.2 ⟨fun s hs b x y => ?_, d4⟩
   rcases (x : b = f.p ∨ b = f.t ∨ b = 7) with x | x
   · exact d1 s (List.mem_cons_of_mem _ hs) b x y
   · exact d3 s hs b x y
theorem fld_openS {w : World} {f : FD} (hg : Rs.gt.inv w) (h1 : ¬ f.p = 7) (hb : (Rs.blk f.p fcS 150).inv w) (h2 : f.t = f.p) : St (Rs.fld f).fp w w [.blk f.p fcS 150, .gt] := by
 refine ⟨.refl _ _, ?_, ?_, ?_⟩
 · intro r hr
   rcases List.mem_cons.1 hr with rfl | hr
   · exact hb
   · rw [List.mem_singleton.1 hr]; exact hg
 · intro r hr b hbf
   rcases List.mem_cons.1 hr with rfl | hr
   · exact .inr (.inl hbf)
   · rw [List.mem_singleton.1 hr] at hbf; exact .inr (.inr (.inr hbf))
 · refine List.pairwise_cons.2 ⟨fun s hs b x y => ?_, List.pairwise_singleton _ _⟩
   rw [List.mem_singleton.1 hs] at y
   have x' : b = f.p := x
   have y' : b = 7 := y
   exact h1 (x'.symm.trans y')
theorem fld_closeS {X : Nat → Prop} {w0 w : World} {f : FD} {R : List Rs} (hk : f.k = 2) (h1 : ¬ f.p = 7) (h2 : f.t = f.p) (H : St X w0 w (.blk f.p fcS 150 :: .gt :: R)) : St X w0 w (.fld f :: R) := by
 have hb := H.get 0 rfl
 have hg := H.get 1 rfl
 obtain ⟨d1, d2⟩ := List.pairwise_cons.1 H.dj
 obtain ⟨d3, d4⟩ := List.pairwise_cons.1 d2
 have key : ∀ b, (Rs.fld f).fp b → (Rs.blk f.p fcS 150).fp b ∨ Rs.gt.fp b := fun b h => by
   rcases (h : b = f.p ∨ b = f.t ∨ b = 7) with x | x | x
   · exact .inl x
   · exact .inl (x.trans h2)
   · exact .inr x
 refine ⟨H.ch, ?_, ?_, ?_⟩
 · intro r hr
   rcases List.mem_cons.1 hr with rfl | hr
   · exact ⟨hg, h1, .inr ⟨hk, hb, h2⟩⟩
   · exact H.inv r (List.mem_cons_of_mem _ (List.mem_cons_of_mem _ hr))
 · intro r hr b hbf
   rcases List.mem_cons.1 hr with rfl | hr
   · rcases key b hbf with x | x
     · exact H.fp _ List.mem_cons_self b x
     · exact H.fp _ (List.mem_cons_of_mem _ List.mem_cons_self) b x
   · exact H.fp r (List.mem_cons_of_mem _ (List.mem_cons_of_mem _ hr)) b hbf
 · refine List.pairwise_cons.2 ⟨fun s hs b x y => ?_, d4⟩
   rcases key b x with x | x
   · exact d1 s (List.mem_cons_of_mem _ hs) b x y
   · exact d3 s hs b x y
theorem field_Field_Mul.calls {w0 : World} {f0_ : FD} {a1 a2 : Int} {r : Int} (hf : (Rs.fld f0_).inv w0) (E : field_Field_Mul.f a1 a2 = some r) :
   Calls Tryz.prog 195 #[.pointer (some ⟨f0_.p, 0, none⟩), .int .u8 a1, .int .u8 a2] w0 fun e w' => e = .returned (.int .u8 r) ∧ St (Rs.fld f0_).fp w0 w' [.fld f0_] := by
 unfold field_Field_Mul.f at E
 obtain ⟨g, E⟩ := grd_some' E
 rw [Bool.and_eq_true] at g
 obtain ⟨a, rfl, ha⟩ := byt_nat g.1
 obtain ⟨b, rfl, hb⟩ := byt_nat g.2
 cases E
 have e : gm (a : Int) (b : Int) = ((gmN a b : Nat) : Int) := by simp [gm]
 obtain ⟨hg, h1, ⟨hk, hb, h2, m, ht⟩ | ⟨hk, hb, h2⟩⟩ := hf
 · refine (field_Field_MulT.calls (fld_openT h1 hb h2 ht) (r := ((gmN a b : Nat) : Int)) (by unfold field_Field_MulT.f; rw [tmul_ok ha (by assumption)]; rfl)).mono ?_
   rintro _ w ⟨m, rfl, K⟩
   exact ⟨by rw [e], fld_closeT hk h1 h2 K⟩
 · refine (field_Field_MulS.calls (k := 100000) (fld_openS hg h1 hb h2) (r := ((gmN a b : Nat) : Int)) (by unfold field_Field_MulS.f field_byShift_Mul.f; rw [smul_ok ha (by assumption) (by decide)]; rfl)).mono ?_
   rintro _ w ⟨rfl, K⟩
   exact ⟨by rw [e], fld_closeS hk h1 h2 K⟩
theorem field_Field_Inv.calls {w0 : World} {f0_ : FD} {a1 : Int} {r : Int × Bool} (hf : (Rs.fld f0_).inv w0) (E : field_Field_Inv.f a1 = some r) :
   Calls Tryz.prog 221 #[.pointer (some ⟨f0_.p, 0, none⟩), .int .u8 a1] w0 fun e w' => e = .returned (.tuple #[.int .u8 r.1, .bool r.2]) ∧ St (Rs.fld f0_).fp w0 w' [.fld f0_] := by
 unfold field_Field_Inv.f at E
 obtain ⟨g, E⟩ := grd_some' E
 obtain ⟨a, rfl, ha⟩ := byt_nat g
 have e : (if a = 0 then ((0 : Int), false) else (((giN a : Nat) : Int), true)) = r := by
   have := Option.some.inj E
   rw [← this]; simp only [Int.toNat_natCast]; by_cases h0 : a = 0 <;> simp [h0]
 obtain ⟨hg, h1, ⟨hk, hb, h2, m, ht⟩ | ⟨hk, hb, h2⟩⟩ := hf
 · refine (field_Field_InvT.calls (fld_openT h1 hb h2 ht) (r := r) (by unfold field_Field_InvT.f; rw [tinv_ok ha, e]; rfl)).mono ?_
   rintro _ w ⟨m, rfl, K⟩
   exact ⟨rfl, fld_closeT hk h1 h2 K⟩
 · refine (field_Field_InvS.calls (k := 100000) (fld_openS hg h1 hb h2) (r := r) (by unfold field_Field_InvS.f; rw [sinv_ok ha (by decide), e]; rfl)).mono ?_
   rintro _ w ⟨rfl, K⟩
   exact ⟨rfl, fld_closeS hk h1 h2 K⟩
theorem field_Field_Pow.calls {w0 : World} {f0_ : FD} {a1 a2 : Int} {r : Int} (hf : (Rs.fld f0_).inv w0) (E : field_Field_Pow.f a1 a2 = some r) :
   Calls Tryz.prog 197 #[.pointer (some ⟨f0_.p, 0, none⟩), .int .u8 a1, .int .i64 a2] w0 fun e w' => e = .returned (.int .u8 r) ∧ St (Rs.fld f0_).fp w0 w' [.fld f0_] := by
 unfold field_Field_Pow.f at E
 obtain ⟨g, E⟩ := grd_some' E
 rw [Bool.and_eq_true, decide_eq_true_eq] at g
 obtain ⟨a, rfl, ha⟩ := byt_nat g.1
 cases E
 obtain ⟨hg, h1, ⟨hk, hb, h2, m, ht⟩ | ⟨hk, hb, h2⟩⟩ := hf
 · refine (field_Field_PowT.calls (fld_openT h1 hb h2 ht) (r := gpw a a2) (by unfold field_Field_PowT.f; rw [tpow_ok ha g.2.1 g.2.2]; rfl)).mono ?_
   rintro _ w ⟨m, rfl, K⟩
   exact ⟨rfl, fld_closeT hk h1 h2 K⟩
 · refine (field_Field_PowS.calls (k := 100000) (fld_openS hg h1 hb h2) (r := gpw a a2) (by unfold field_Field_PowS.f; rw [spow_ok ha (by decide) g.2.1 g.2.2]; rfl)).mono ?_
   rintro _ w ⟨rfl, K⟩
   exact ⟨rfl, fld_closeS hk h1 h2 K⟩
theorem field_Field_Pairs.calls {w0 : World} {f0_ : FD} {a1 a2 : List Int} {v1_ v2_ : Value} {r : List Int} (hf : (Rs.fld f0_).inv w0) (h1 : Rd (.of (.int .u8)) w0 (Ol (Rs.fld f0_).fp w0) v1_ a1) (h2 : Rd (.of (.int .u8)) w0 (Ol (Rs.fld f0_).fp w0) v2_ a2) (E : field_Field_Pairs.f a1 a2 = some r) :
   Calls Tryz.prog 248 #[.pointer (some ⟨f0_.p, 0, none⟩), v1_, v2_] w0 fun e w' => ∃ u0 : Value, e = .returned u0 ∧ St (Rs.fld f0_).fp w0 w' [.fld f0_, .own (.int .u8) 5 u0 r] := by
 unfold field_Field_Pairs.f at E
 obtain ⟨g, E⟩ := grd_some' E
 rw [Bool.and_eq_true, Bool.and_eq_true, decide_eq_true_eq] at g
 cases E
 obtain ⟨hg, q1, ⟨hk, hb, q2, m, ht⟩ | ⟨hk, hb, q2⟩⟩ := hf
 · refine (field_Field_PairsT.calls (k := 200000000000000) (fld_openT q1 hb q2 ht) h1 h2 (fpairsT_ok g.1.1 g.1.2 g.2 (by omega))).mono ?_
   rintro _ w ⟨m, u, rfl, K⟩
   exact ⟨u, rfl, fld_closeT hk q1 q2 K⟩
 · refine (field_Field_PairsS.calls (k := 200000000000000) (fld_openS hg q1 hb q2) h1 h2 (fpairsS_ok g.1.1 g.1.2 g.2 (by omega))).mono ?_
   rintro _ w ⟨u, rfl, K⟩
   exact ⟨u, rfl, fld_closeS hk q1 q2 K⟩
end Go.Proofs.YtkndgkbgbmhjoaaGreatDoor.Gw
