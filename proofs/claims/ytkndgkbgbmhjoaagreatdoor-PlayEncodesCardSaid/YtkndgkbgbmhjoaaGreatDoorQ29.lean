/- The card of the law that what a desk encodes is read back from what it tells: a part of its proof. The conditions are those of the statement. -/
import Derived.Test.YtkndgkbgbmhjoaaGreatDoorQ24
import Derived.Test.YtkndgkbgbmhjoaaGreatDoorQ27
import Derived.Test.YtkndgkbgbmhjoaaGreatDoorQ28
import Derived.Test.YtkndgkbgbmhjoaaGreatDoorQ7
import Derived.Lib.TrimUEq
namespace Go.Proofs.YtkndgkbgbmhjoaaGreatDoor.Gw
open Go GF
set_option linter.unusedSimpArgs false
set_option linter.unusedVariables false
theorem fdiv_nat (b i : Nat) : Int.fdiv (b : Int) (2 ^ i) = ((b / 2 ^ i : Nat) : Int) := by
 rw [Int.fdiv_eq_ediv_of_nonneg _ (Int.pow_nonneg (by decide))]
 simp
theorem tmod2 (b : Nat) : Int.tmod (b : Int) 2 = ((b % 2 : Nat) : Int) := by
 rw [Int.tmod_eq_emod_of_nonneg (by omega)]; omega
theorem u64_nat {i : Nat} (h : i < 1000) : (IntKind.u64.wrap (i : Int)).toNat = i := by rw [u64_id (by omega) (by omega)]; omega
theorem rwide_l0 {a b : Nat} (ha : a < 256) (hb : b < 256) : ∀ (d i k acc : Nat), i + d = 8 → d < k → acc < 65536 →
   ref01_Wide.l0 k (a : Int) (b : Int) (acc : Int) (i : Int) = some ((acc ^^^ clR d (a * 2 ^ i) (b / 2 ^ i) : Nat) : Int)
 | d, i, 0, _, _, h, _ => by omega
 | 0, i, k + 1, acc, hd, hk, hx => by
   rw [ref01_Wide.l0, bifF (by omega), clR, Nat.xor_zero]
 | d + 1, i, k + 1, acc, hd, hk, hx => by
   have hi : min i 8 = i := by omega
   have hi2 : min i 16 = i := by omega
   have e1 : IntKind.i64.wrap ((i : Int) + 1) = ((i + 1 : Nat) : Int) := wrap1 (by omega)
   have hle : 2 ^ i ≤ 2 ^ 7 := Nat.pow_le_pow_right (by decide) (by omega)
   have hp : a * 2 ^ i < 65536 := by
     have : a * 2 ^ i ≤ 255 * 2 ^ 7 := Nat.mul_le_mul (by omega) hle
     omega
   have hs : IntKind.u16.wrap (IntKind.u16.wrap (a : Int) * 2 ^ i) = ((a * 2 ^ i : Nat) : Int) := by
     rw [u16_id (x := (a : Int)) (by omega) (by omega)]
     have hc : ((a * 2 ^ i : Nat) : Int) = (a : Int) * 2 ^ i := by simp
     rw [← hc, u16_id (by omega) (by omega)]
   have e2 : 2 * (a * 2 ^ i) = a * 2 ^ (i + 1) := by rw [Nat.pow_succ, Nat.mul_comm 2 (a * 2 ^ i), Nat.mul_assoc]
   have e3 : b / 2 ^ i / 2 = b / 2 ^ (i + 1) := by rw [Nat.div_div_eq_div_mul, Nat.pow_succ]
   have hg : 0 ≤ IntKind.u64.wrap (i : Int) := by rw [u64_id (by omega) (by omega)]; omega
   rw [ref01_Wide.l0, bifT (by omega), grdT hg, u64_nat (by omega), hi, fdiv_nat, tmod2, clR, e2, e3]
   by_cases hbit : b / 2 ^ i % 2 = 1
   · rw [bifT (by omega), grdT hg, if_pos hbit, hi2, hs, xor16 _ _ hx hp, e1, rwide_l0 ha hb d (i + 1) k _ (by omega) (by omega) (Nat.xor_lt_two_pow (n := 16) hx hp), Nat.xor_assoc]
   · rw [bifF (by omega), if_neg hbit, Nat.zero_xor, e1, rwide_l0 ha hb d (i + 1) k _ (by omega) (by omega) hx]
theorem rred_l0 : ∀ (d k w : Nat), d ≤ 8 → d < k → w < 2 ^ (d + 8) → ref01_Reduce.l0 k (w : Int) (((d + 7 : Nat)) : Int) = some ((redN w : Nat) : Int)
 | d, 0, _, _, h, _ => by omega
 | 0, k + 1, w, hd, hk, hw => by
   have hw' : w < 256 := by simpa using hw
   rw [ref01_Reduce.l0, bifF (by omega), u8_id (by omega) (by omega), redN_byte hw']
 | d + 1, k + 1, w, hd, hk, hw => by
   have e0 : ((d + 1 + 7 : Nat) : Int) = ((d + 8 : Nat) : Int) := by omega
   have e1 : IntKind.i64.wrap (((d + 8 : Nat) : Int) - 1) = ((d + 7 : Nat) : Int) := by rw [i64_id (by omega) (by omega)]; omega
   have e2 : IntKind.i64.wrap (((d + 8 : Nat) : Int) - 8) = ((d : Nat) : Int) := by rw [i64_id (by omega) (by omega)]; omega
   have hg : 0 ≤ IntKind.u64.wrap ((d + 8 : Nat) : Int) := by rw [u64_id (by omega) (by omega)]; omega
   have hg2 : 0 ≤ IntKind.u64.wrap ((d : Nat) : Int) := by rw [u64_id (by omega) (by omega)]; omega
   have hm : min (d + 8) 16 = d + 8 := by omega
   have hm2 : min d 16 = d := by omega
   have hpos := Nat.two_pow_pos d
   have e8 : 2 ^ (d + 8) = 256 * 2 ^ d := by rw [Nat.pow_add]; omega
   have e9 : 2 ^ (d + 1 + 8) = 512 * 2 ^ d := by rw [show d + 1 + 8 = d + 9 by omega, Nat.pow_add]; omega
   have hle : 2 ^ d ≤ 2 ^ 7 := Nat.pow_le_pow_right (by decide) (by omega)
   have hw16 : w < 65536 := by omega
   have hp : 285 * 2 ^ d < 65536 := by omega
   rw [ref01_Reduce.l0, e0, bifT (by omega), grdT hg, u64_nat (by omega), hm, fdiv_nat, tmod2, e1, e2]
   by_cases hbit : w / 2 ^ (d + 8) % 2 = 1
   · have hge : 2 ^ (d + 8) ≤ w := by
       rcases Nat.lt_or_ge w (2 ^ (d + 8)) with h | h
       · rw [Nat.div_eq_of_lt h] at hbit; simp at hbit
       · exact h
     have hs : IntKind.u16.wrap (285 * 2 ^ d) = ((285 * 2 ^ d : Nat) : Int) := by
       have hc : ((285 * 2 ^ d : Nat) : Int) = (285 : Int) * 2 ^ d := by simp
       rw [← hc, u16_id (by omega) (by omega)]
     have hx : w ^^^ 285 * 2 ^ d < 2 ^ (d + 8) := top_xor hge (by rw [show d + 8 + 1 = d + 1 + 8 by omega]; exact hw) (by omega) (by rw [show d + 8 + 1 = d + 1 + 8 by omega]; omega)
     rw [bifT (by omega), grdT hg2, u64_nat (by omega), hm2, hs, xor16 _ _ hw16 hp, rred_l0 d k _ (by omega) (by omega) hx]
     unfold redN
     rw [gmR_xor_r]
     have := redN_mod (j := d) (by omega)
     unfold redN at this
     rw [this, Nat.xor_zero]
   · have hlt : w < 2 ^ (d + 8) := by
       rcases Nat.lt_or_ge w (2 ^ (d + 8)) with h | h
       · exact h
       · exfalso
         have h1 : w / 2 ^ (d + 8) = 1 := by
           have h2 : 1 ≤ w / 2 ^ (d + 8) := (Nat.le_div_iff_mul_le (by omega)).2 (by omega)
           have h3 : w / 2 ^ (d + 8) < 2 := Nat.div_lt_of_lt_mul (by omega)
           omega
         rw [h1] at hbit; exact hbit rfl
     rw [bifF (by omega), rred_l0 d k w (by omega) (by omega) hlt]
theorem rmul_ok {a b : GF} {k : Nat} (hk : 20 < k) : ref01_Mul.f k ((a.1 : Nat) : Int) ((b.1 : Nat) : Int) = some (((a * b).1 : Nat) : Int) := by
 have ha := a.2
 have hb := b.2
 have h1 := rwide_l0 (a := a.1) (b := b.1) a.2 b.2 8 0 k 0 (by omega) (by omega) (by omega)
 rw [Nat.pow_zero, Nat.mul_one, Nat.div_one, Nat.zero_xor] at h1
 have h2 := rred_l0 8 k (clR 8 a.1 b.1) (by omega) (by omega) (clR_lt15 b.1 a.2)
 unfold ref01_Mul.f ref01_Wide.f ref01_Reduce.f
 rw [show (0 : Int) = ((0 : Nat) : Int) from rfl, h1, Option.bind_some, show (15 : Int) = ((8 + 7 : Nat) : Int) from rfl, h2, red_cl 8 a.1 b.1 (by omega), redN_byte a.2]; rfl
theorem rdeg_l0 (p : List GF) : ∀ (j k : Nat), j ≤ p.length → j < k → p.length < 4611686018427387904 → nrm (p.take j) = nrm p → ref05_Deg.l0 k (bi p) ((j : Int) - 1) = some (((nrm p).length : Int) - 1)
 | j, 0, _, h, _, _ => by omega
 | 0, k + 1, _, _, _, he => by
   rw [ref05_Deg.l0, bifF (by omega), ← he]; rfl
 | j + 1, k + 1, hj, hk, hb, he => by
   have e1 : ((j + 1 : Nat) : Int) - 1 = (j : Int) := by omega
   have e2 : IntKind.i64.wrap ((j : Int) - 1) = (j : Int) - 1 := i64_id (by omega) (by omega)
   have e3 : p.take (j + 1) = p.take j ++ [p.getD j 0] := by
     rw [List.take_succ_eq_append_getElem hj, getD_lt hj]
   rw [ref05_Deg.l0, e1, bifT (by omega), grdT (by rw [bi_length]; omega), bi_at, e2]
   rw [e3, nrm_snoc] at he
   by_cases hc : p.getD j 0 = 0
   · rw [if_pos hc] at he
     rw [hc, bifNF (show (((0 : GF).1 : Nat) : Int) = 0 from rfl)]
     exact rdeg_l0 p j k (by omega) (by omega) hb he
   · rw [if_neg hc] at he
     rw [bifNT (fun e => hc (GF.ext (by have e' := e; simp only [zero_val]; omega))), ← he]
     simp; omega
theorem rdeg_ok {p : List GF} {k : Nat} (hk : p.length < k) (hb : p.length < 4611686018427387904) : ref05_Deg.f k (bi p) = some (((nrm p).length : Int) - 1) := by
 unfold ref05_Deg.f
 rw [bi_length, i64_id (by omega) (by omega)]
 exact rdeg_l0 p p.length k (Nat.le_refl _) hk hb (by rw [List.take_length])
theorem rnorm_ok {p : List GF} {k : Nat} (hk : p.length < k) (hb : p.length < 4294967296) : ref05_Norm.f k (bi p) = some (bi (nrm p)) := by
 unfold ref05_Norm.f
 have hl := nrm_le p
 rw [rdeg_ok hk (by omega), Option.bind_some, i64_id (by omega) (by omega), grdT (by rw [bi_length]; omega)]
 have e : (((nrm p).length : Int) - 1 + 1).toNat = (nrm p).length := by omega
 rw [e, bi_take, nrm_take, List.drop_zero, grdT (by rw [bi_length]; simp; omega)]; rfl
theorem rcoef_ok (p : List GF) (j : Nat) : ref05_Coef.f (bi p) (j : Int) = some (((p.getD j 0).1 : Nat) : Int) := by
 unfold ref05_Coef.f
 rw [bifF (by omega)]
 by_cases h : j < p.length
 · rw [bifF (by rw [bi_length]; omega), grdT (by rw [bi_length]; omega), bi_at]
 · rw [bifT (by rw [bi_length]; omega)]
   have : p.getD j 0 = 0 := by simp [List.getD_eq_getElem?_getD, List.getElem?_eq_none (by omega : p.length ≤ j)]
   rw [this]; rfl
theorem rup_ok {p : List GF} {n k : Nat} (hn : n < 1000) (hp : p.length < 1000) (hk : n + p.length < k) : ref05_Up.f k (bi p) (n : Int) = some (bi (nrm (List.replicate n 0 ++ p))) := by
 unfold ref05_Up.f
 rw [grdT (by omega), Int.toNat_natCast, grdT (by rw [List.length_replicate, bi_length]; omega), bi_zeros, ← bi_append, rnorm_ok (by simp; omega) (by simp; omega)]; rfl
theorem rscale_l0 (c : GF) (p : List GF) (hp : p.length < 1000) : ∀ (d i k : Nat), i + d = p.length → 1000 + d < k →
   ref05_Scale.l0 k ((c.1 : Nat) : Int) (bi p) (bi ((p.take i).map (c * ·))) (i : Int) = some (bi (nrm (p.map (c * ·))))
 | d, i, 0, _, h => by omega
 | 0, i, k + 1, hd, hk => by
   rw [ref05_Scale.l0, bifF (by rw [bi_length]; omega), List.take_of_length_le (by omega), rnorm_ok (by simp; omega) (by simp; omega)]; rfl
 | d + 1, i, k + 1, hd, hk => by
   have hi : i < p.length := by omega
   rw [ref05_Scale.l0, bifT (by rw [bi_length]; omega), grdT (by rw [bi_length]; omega), bi_at, rmul_ok (by omega), Option.bind_some, grdT (by rw [bi_length]; simp; omega), wrap1 (by omega)]
   have e : bi ((p.take i).map (c * ·)) ++ [(((c * p.getD i 0).1 : Nat) : Int)] = bi ((p.take (i + 1)).map (c * ·)) := by
     rw [List.take_succ_eq_append_getElem hi, getD_lt hi, List.map_append, bi_append]; rfl
   rw [e]
   exact rscale_l0 c p hp d (i + 1) k (by omega) (by omega)
theorem rscale_ok {c : GF} {p : List GF} {k : Nat} (hp : p.length < 1000) (hk : 2000 < k) : ref05_Scale.f k ((c.1 : Nat) : Int) (bi p) = some (bi (nrm (p.map (c * ·)))) := rscale_l0 c p hp p.length 0 k (by omega) (by omega)
def padd (p q : List GF) : List GF := (List.range (max p.length q.length)).map fun j => p.getD j 0 + q.getD j 0
theorem getD_map_range (f : Nat → GF) (n j : Nat) : ((List.range n).map f).getD j 0 = if j < n then f j else 0 := by
 simp only [List.getD_eq_getElem?_getD, List.getElem?_map]
 by_cases h : j < n
 · rw [if_pos h, List.getElem?_eq_getElem (by simpa using h)]; simp
 · rw [if_neg h, List.getElem?_eq_none (by simpa using h)]; rfl
theorem getD_ge {p : List GF} {j : Nat} (h : p.length ≤ j) : p.getD j 0 = 0 := by simp [List.getD_eq_getElem?_getD, List.getElem?_eq_none h]
theorem padd_get (p q : List GF) (j : Nat) : (padd p q).getD j 0 = p.getD j 0 + q.getD j 0 := by
 rw [padd, getD_map_range]
 by_cases h : j < max p.length q.length
 · rw [if_pos h]
 · rw [if_neg h, getD_ge (p := p) (by omega), getD_ge (p := q) (by omega), GF.add_zero]
theorem padd_pv (p q : List GF) (x : GF) : pv (padd p q) x = pv p x + pv q x := by
 have hp : pv (p ++ List.replicate (max p.length q.length - p.length) 0) x = pv p x := by rw [pv_append, pv_zeros, GF.mul_zero, GF.add_zero]
 have hq : pv (q ++ List.replicate (max p.length q.length - q.length) 0) x = pv q x := by rw [pv_append, pv_zeros, GF.mul_zero, GF.add_zero]
 rw [← hp, ← hq, ← pv_zip x _ _ (by simp; omega)]
 congr 1
 apply List.ext_getElem
 · simp [padd]; omega
 · intro j h1 h2
   have hz : ∀ (l : List GF) (m : Nat) (h : j < (l ++ List.replicate m 0).length), (l ++ List.replicate m 0)[j] = l.getD j 0 := fun l m h => by
     rw [List.getElem_append]
     split
     · rename_i h'; rw [getD_lt h']
     · rename_i h'; rw [List.getElem_replicate, getD_ge (by omega)]
   rw [List.getElem_zipWith, hz, hz]
   simp [padd]
theorem radd_l0 (p q : List GF) (hp : p.length < 1000) (hq : q.length < 1000) : ∀ (d i k : Nat), i + d = max p.length q.length → 1000 + d < k →
   ref05_Add.l0 k (bi p) (bi q) (bi ((padd p q).take i)) (i : Int) = some (bi (nrm (padd p q)))
 | d, i, 0, _, h => by omega
 | d, i, k + 1, hd, hk => by
   have hm : max2 ((bi p).length : Int) ((bi q).length : Int) = ((max p.length q.length : Nat) : Int) := by rw [bi_length, bi_length]; unfold max2; split <;> omega
   have hl : (padd p q).length = max p.length q.length := by simp [padd]
   cases d with
   | zero =>
     rw [ref05_Add.l0, hm, bifF (by omega), List.take_of_length_le (by omega), rnorm_ok (by omega) (by omega)]; rfl
   | succ d =>
     rw [ref05_Add.l0, hm, bifT (by omega), rcoef_ok, Option.bind_some, rcoef_ok, Option.bind_some, xor_val, grdT (by rw [bi_length]; simp; omega), wrap1 (by omega)]
     have hi : i < (padd p q).length := by omega
     have e : bi ((padd p q).take i) ++ [(((p.getD i 0 + q.getD i 0).1 : Nat) : Int)] = bi ((padd p q).take (i + 1)) := by
       rw [List.take_succ_eq_append_getElem hi, ← padd_get, getD_lt hi, bi_append]; rfl
     rw [e]
     exact radd_l0 p q hp hq d (i + 1) k (by omega) (by omega)
theorem radd_ok {p q : List GF} {k : Nat} (hp : p.length < 1000) (hq : q.length < 1000) (hk : 2000 < k) : ref05_Add.f k (bi p) (bi q) = some (bi (nrm (padd p q))) := radd_l0 p q hp hq (max p.length q.length) 0 k (by omega) (by omega)
theorem nrm_bound {n : Nat} {p : List GF} (h : ∀ j, n ≤ j → p.getD j 0 = 0) : (nrm p).length ≤ n := by
 rcases Nat.lt_or_ge n (nrm p).length with hlt | hge
 · exfalso
   rcases List.eq_nil_or_concat (nrm p) with e | ⟨q, c, e⟩
   · rw [e] at hlt; simp at hlt
   · rw [List.concat_eq_append] at e
     have hc : c = 0 := by
       have := nrm_get p q.length
       rw [h q.length (by rw [e] at hlt; simp at hlt; omega), e] at this
       simpa [List.getD_eq_getElem?_getD] using this
     obtain ⟨m, h1, _⟩ := nrm_spec _ p rfl
     have h2 : nrm p = nrm q := by
       conv => lhs; rw [h1]
       rw [e, hc]
       have : ∀ m, nrm (q ++ [0] ++ List.replicate m 0) = nrm q := fun m => by
         induction m with
         | zero => rw [List.replicate_zero, List.append_nil, nrm_snoc, if_pos rfl]
         | succ m ih => rw [List.replicate_succ', ← List.append_assoc, nrm_snoc, if_pos rfl, ih]
       exact this m
     have h3 := nrm_le q
     rw [← h2, e] at h3
     simp at h3
     omega
 · exact hge
theorem nrm_nrm (p : List GF) : nrm (nrm p) = nrm p := by
 obtain ⟨m, h1, _⟩ := nrm_spec _ p rfl
 have h2 : ∀ m, nrm (nrm p ++ List.replicate m 0) = nrm (nrm p) := fun m => by
   induction m with
   | zero => rw [List.replicate_zero, List.append_nil]
   | succ m ih => rw [List.replicate_succ', ← List.append_assoc, nrm_snoc, if_pos rfl, ih]
 rw [← h2 m, ← h1]
theorem rmul_l1 (p q : List GF) (i : Nat) (hi : i < p.length) : ∀ (d j k : Nat) (L : List GF), j + d = q.length → d + 30 < k → i + q.length ≤ L.length → L.length < 4294967296 →
   ∃ k', k = k' + d + 1 ∧ ref05_Mul.l1 k (bi p) (bi q) (i : Int) (bi L) (j : Int) = ref05_Mul.l0 k' (bi p) (bi q) (bi (addAt (i + j) ((q.drop j).map (p.getD i 0 * ·)) L)) (IntKind.i64.wrap ((i : Int) + 1))
 | d, j, 0, L, _, h, _, _ => by omega
 | 0, j, k + 1, L, hd, hk, hL, hb => by
   refine ⟨k, by omega, ?_⟩
   rw [ref05_Mul.l1, bifF (by rw [bi_length]; omega), List.drop_of_length_le (by omega)]; rfl
 | d + 1, j, k + 1, L, hd, hk, hL, hb => by
   have e1 : IntKind.i64.wrap ((i : Int) + (j : Int)) = ((i + j : Nat) : Int) := by rw [i64_id (by omega) (by omega)]; omega
   have e2 : IntKind.i64.wrap ((j : Int) + 1) = ((j + 1 : Nat) : Int) := wrap1 (by omega)
   obtain ⟨k', h1, h2⟩ := rmul_l1 p q i hi d (j + 1) k (L.set (i + j) (L.getD (i + j) 0 + p.getD i 0 * q.getD j 0)) (by omega) (by omega) (by simp; omega) (by simpa using hb)
   refine ⟨k', by omega, ?_⟩
   have hj : j < q.length := by omega
   have e3 : q.drop j = q.getD j 0 :: q.drop (j + 1) := by
     rw [List.drop_eq_getElem_cons hj, getD_lt hj]
   rw [ref05_Mul.l1, bifT (by rw [bi_length]; omega), e1, grdT (by rw [bi_length]; omega), grdT (by rw [bi_length]; omega), grdT (by rw [bi_length]; omega), bi_at, bi_at, rmul_ok (by omega), Option.bind_some, grdT (by rw [bi_length]; omega), e2, bi_at, xor_val, Int.toNat_natCast, bi_set, h2, e3]
   rfl
theorem rmul_l0 (p q : List GF) (hq : q.length < 1000) : ∀ (d i k : Nat) (L : List GF), i + d = p.length → p.length + q.length ≤ L.length → L.length + 100 + d * (q.length + 40) < k → L.length < 4294967296 →
   ∃ L', L'.length = L.length ∧ (∀ x, pv L' x = pv L x + pow x i * (pv (p.drop i) x * pv q x)) ∧ ref05_Mul.l0 k (bi p) (bi q) (bi L) (i : Int) = some (bi (nrm L'))
 | d, i, 0, L, _, _, h, _ => by omega
 | 0, i, k + 1, L, hj, hL, hk, hb => by
   refine ⟨L, rfl, fun x => by rw [List.drop_of_length_le (by omega), pv, zero_mul, mul_zero, add_zero], ?_⟩
   rw [ref05_Mul.l0, bifF (by rw [bi_length]; omega), rnorm_ok (by omega) hb]; rfl
 | d + 1, i, k + 1, L, hj, hL, hk, hb => by
   have hmul : (d + 1) * (q.length + 40) = d * (q.length + 40) + q.length + 40 := by rw [Nat.add_mul]; omega
   have hi : i < p.length := by omega
   obtain ⟨k', h1, h2⟩ := rmul_l1 p q i hi q.length 0 k L (by omega) (by omega) (by omega) hb
   rw [show ((0 : Nat) : Int) = 0 from rfl, Nat.add_zero, List.drop_zero, wrap1 (by omega)] at h2
   rw [ref05_Mul.l0, bifT (by rw [bi_length]; omega), h2]
   obtain ⟨L', h4, h5, h6⟩ := rmul_l0 p q hq d (i + 1) k' (addAt i (q.map (p.getD i 0 * ·)) L) (by omega) (by rw [addAt_length]; exact hL) (by rw [addAt_length]; omega) (by rw [addAt_length]; exact hb)
   refine ⟨L', by rw [h4, addAt_length], fun x => ?_, h6⟩
   have e3 : p.drop i = p.getD i 0 :: p.drop (i + 1) := by rw [List.drop_eq_getElem_cons hi, getD_lt hi]
   rw [h5 x, pv_addAt x _ _ _ (by simp; omega), pv_map, e3, pv, add_mul, GF.mul_add, GF.add_assoc]
   congr 2
   rw [pow]; ac_rfl
theorem rmulp_ok {p q : List GF} {k : Nat} (hq : q.length < 1000) (hp : p.length < 1000) (hk : p.length + q.length + 100 + p.length * (q.length + 40) < k) :
   ∃ L, L.length = p.length + q.length ∧ (∀ x, pv L x = pv p x * pv q x) ∧ ref05_Mul.f k (bi p) (bi q) = some (bi (nrm L)) := by
 have e1 : IntKind.i64.wrap (((bi p).length : Int) + ((bi q).length : Int)) = ((p.length + q.length : Nat) : Int) := by rw [bi_length, bi_length, i64_id (by omega) (by omega)]; omega
 obtain ⟨L, h1, h2, h3⟩ := rmul_l0 p q hq p.length 0 k (List.replicate (p.length + q.length) 0) (by omega) (by simp) (by simpa using hk) (by simp; omega)
 refine ⟨L, by simpa using h1, fun x => by rw [h2 x, pv_zeros, GF.zero_add, List.drop_zero, pow, GF.one_mul], ?_⟩
 unfold ref05_Mul.f
 rw [e1, grdT (by omega), Int.toNat_natCast, bi_zeros]
 exact h3
theorem rmulL_ok {n k : Nat} {g : List GF} (r : GF) (h : Mon n g) (hn : n ≤ 253) (hk : 20000 < k) : ref05_Mul.f k (bi g) [((r.1 : Nat) : Int), 1] = some (bi (mulL r g)) := by
 obtain ⟨L, h1, h2, h3⟩ := rmulp_ok (p := g) (q := [r, 1]) (k := k) (by simp) (by rw [h.1]; omega) (by rw [h.1]; simp; omega)
 rw [show ([((r.1 : Nat) : Int), 1] : List Int) = bi [r, 1] from rfl, h3]
 have e : L = mulL r g ++ [0] := pv_all (by rw [h1, List.length_append, mulL_length]; rfl) (by rw [h1, h.1]; simp; omega) fun x => by
   rw [h2, pv_append, mulL_pv]
   simp only [pv, GF.mul_zero, GF.add_zero, GF.mul_one]
   exact GF.mul_comm _ _
 rw [e, nrm_snoc, if_pos rfl, nrm_mon (mulL_mon r h)]
theorem rfrom_l0 (rs : List GF) (hr : rs.length ≤ 254) : ∀ (d i k : Nat) (g : List GF), i + d = rs.length → Mon i g → 20000 + d < k →
   ref07_From.l0 k (bi rs) (bi g) (i : Int) = some (bi ((rs.drop i).foldl (fun g r => mulL r g) g))
 | d, i, 0, _, _, _, h => by omega
 | 0, i, k + 1, g, hd, hm, hk => by
   rw [ref07_From.l0, bifF (by rw [bi_length]; omega), List.drop_of_length_le (by omega)]; rfl
 | d + 1, i, k + 1, g, hd, hm, hk => by
   have hi : i < rs.length := by omega
   rw [ref07_From.l0, bifT (by rw [bi_length]; omega), grdT (by rw [bi_length]; omega), bi_at, rmulL_ok _ hm (by omega) (by omega), Option.bind_some, wrap1 (by omega)]
   rw [rfrom_l0 rs hr d (i + 1) k _ (by omega) (mulL_mon _ hm) (by omega)]
   have e3 : rs.drop i = rs.getD i 0 :: rs.drop (i + 1) := by rw [List.drop_eq_getElem_cons hi, getD_lt hi]
   rw [e3]; rfl
theorem rfrom_ok {rs : List GF} {k : Nat} (hr : rs.length ≤ 254) (hk : 21000 < k) : ref07_From.f k (bi rs) = some (bi (genP rs)) := by
 unfold ref07_From.f
 have := rfrom_l0 rs hr rs.length 0 k [1] (by omega) ⟨rfl, rfl⟩ (by omega)
 rw [show ([1] : List Int) = bi [1] from rfl, show (0 : Int) = ((0 : Nat) : Int) from rfl, this, List.drop_zero]; rfl
theorem rright_ok {N K B : Nat} (h : Cd N K B) : ref10_Right.f ((N : Int), (K : Int), (B : Int)) = some 0 := by
 obtain ⟨h1, h2, h3, h4⟩ := h
 unfold ref10_Right.f
 rw [bifF (by simp only; omega), bifF (by simp only; omega), bifF (by simp only; omega), bifF (by simp only; omega), bifF (by simp only; omega)]
theorem rspace_ok {N K B : Nat} (h : Cd N K B) : ref10_Space.f ((N : Int), (K : Int), (B : Int)) = some ((N - K : Nat) : Int) := by
 unfold ref10_Space.f
 obtain ⟨h1, h2, h3, h4⟩ := id h
 simp only
 rw [rright_ok h, Option.bind_some, bifNF rfl, i64_id (by omega) (by omega)]
 congr 1; omega
theorem rpow_l0 (a : GF) (n : Nat) (hn : n < 1000) : ∀ (d i k : Nat), i + d = n → 30 + d < k → ref01_Pow.l0 k ((a.1 : Nat) : Int) (n : Int) (((pow a i).1 : Nat) : Int) (i : Int) = some (((pow a n).1 : Nat) : Int)
 | d, i, 0, _, h => by omega
 | 0, i, k + 1, hd, hk => by
   obtain rfl : i = n := by omega
   rw [ref01_Pow.l0, bifF (by omega)]
 | d + 1, i, k + 1, hd, hk => by
   rw [ref01_Pow.l0, bifT (by omega), rmul_ok (by omega), Option.bind_some, wrap1 (by omega)]
   exact rpow_l0 a n hn d (i + 1) k (by omega) (by omega)
theorem rpoint_ok {n k : Nat} (hn : n < 4611686018427387904) (hk : 1000 < k) : ref10_Point.f k (n : Int) = some (((pow al n).1 : Nat) : Int) := by
 unfold ref10_Point.f ref01_Pow.f
 by_cases h0 : n = 0
 · subst h0
   rw [bifT (by rfl)]; rfl
 · have e1 : Int.tmod (n : Int) 255 = ((n % 255 : Nat) : Int) := by rw [Int.tmod_eq_emod_of_nonneg (by omega)]; omega
   rw [bifF (by omega), bifF (by decide), e1, bifF (by omega)]
   unfold ref01_Pow.j0
   have := rpow_l0 al (n % 255) (by omega) (n % 255) 0 k (by omega) (by omega)
   have e2 : pow al (n % 255) = pow al n := GF.ext (by rw [pow_val, pow_val]; exact gpN_mod (a := 2) (by decide) (by decide) n)
   rw [e2] at this
   exact congrArg (fun o : Option Int => o.bind some) this
theorem rroots_l0 {N K B : Nat} (hc : Cd N K B) : ∀ (d i k : Nat), i + d = N - K → 1000 + d < k → ref10_Roots.l0 k ((N : Int), (K : Int), (B : Int)) (bi (rts B i)) (i : Int) = some (bi (rts B (N - K)))
 | d, i, 0, _, h => by omega
 | d, i, k + 1, hd, hk => by
   obtain ⟨c1, c2, c3, c4⟩ := id hc
   rw [ref10_Roots.l0]
   simp only
   rw [rspace_ok hc, Option.bind_some]
   cases d with
   | zero =>
     obtain rfl : i = N - K := by omega
     rw [bifF (by omega)]
   | succ d =>
     have e1 : IntKind.i64.wrap ((B : Int) + (i : Int)) = ((B + i : Nat) : Int) := by rw [i64_id (by omega) (by omega)]; omega
     rw [bifT (by omega), e1, rpoint_ok (by omega) (by omega), Option.bind_some, grdT (by rw [bi_length, rts_length]; simp; omega), wrap1 (by omega)]
     have e : bi (rts B i) ++ [(((pow al (B + i)).1 : Nat) : Int)] = bi (rts B (i + 1)) := by rw [rts_succ, bi_append]; rfl
     rw [e]
     exact rroots_l0 hc d (i + 1) k (by omega) (by omega)
theorem rgen_ok {N K B k : Nat} (hc : Cd N K B) (hk : 21000 < k) : ref10_Generator.f k ((N : Int), (K : Int), (B : Int)) = some (bi (genP (rts B (N - K)))) := by
 obtain ⟨c1, c2, c3, c4⟩ := id hc
 unfold ref10_Generator.f ref10_Roots.f
 simp only
 have := rroots_l0 hc (N - K) 0 k (by omega) (by omega)
 rw [show bi (rts B 0) = [] from rfl, show ((0 : Nat) : Int) = 0 from rfl] at this
 rw [rright_ok hc, Option.bind_some, bifNF rfl, this, Option.bind_some, rfrom_ok (by rw [rts_length]; omega) hk]; rfl
theorem rdiv1 {c : GF} {k : Nat} (hk : 100 < k) : ref01_Div.f k ((c.1 : Nat) : Int) 1 = some ((c.1 : Nat) : Int) := by
 have hinv : ref01_Inv.f k 1 = some (1, true) := by
   obtain ⟨k, rfl⟩ : ∃ m, k = m + 2 := ⟨k - 2, by omega⟩
   unfold ref01_Inv.f
   have m0 := rmul_ok (a := 1) (b := 0) (k := k + 1) (by omega)
   have m1 := rmul_ok (a := 1) (b := 1) (k := k) (by omega)
   rw [GF.mul_zero] at m0
   rw [GF.mul_one] at m1
   rw [ref01_Inv.l0, bifT (by decide), show IntKind.u8.wrap 0 = (((0 : GF).1 : Nat) : Int) by decide, show (1 : Int) = (((1 : GF).1 : Nat) : Int) from rfl, m0, Option.bind_some, bifF (by decide), show IntKind.i64.wrap ((0 : Int) + (((1 : GF).1 : Nat) : Int)) = 1 by decide, ref01_Inv.l0, bifT (by decide), show IntKind.u8.wrap 1 = (((1 : GF).1 : Nat) : Int) by decide, m1, Option.bind_some, bifT (show (((1 : GF).1 : Nat) : Int) = 1 from rfl)]
 have m2 := rmul_ok (a := c) (b := 1) (k := k) (by omega)
 rw [GF.mul_one] at m2
 unfold ref01_Div.f
 rw [hinv, Option.bind_some, show (1, true).1 = (((1 : GF).1 : Nat) : Int) from rfl, m2]; rfl
theorem rdiv_l0 {s : Nat} {g : List GF} (hg : Mon s g) (hs : s ≤ 254) : ∀ (d i k : Nat) (l q : List GF), i + 1 = s + d → i < 600 → i < q.length + s → q.length < 1000 → nrm l = l → (∀ j, i + 1 ≤ j → l.getD j 0 = 0) → 3000 + d < k →
   ∃ (R : List GF) (q' : List Int), R.length ≤ s ∧ (∀ x, pv g x = 0 → pv R x = pv l x) ∧ ref06_Div.l0 k (bi g) (s : Int) (bi l) (bi q) (i : Int) = some (q', bi R, true)
 | d, i, 0, _, _, _, _, _, _, _, _, h => by omega
 | 0, i, k + 1, l, q, hd, hi, hq, hq2, hn, hz, hk => by
   refine ⟨l, bi (nrm q), ?_, fun x _ => rfl, ?_⟩
   · rw [← hn]; exact nrm_bound fun j hj => hz j (by omega)
   · rw [ref06_Div.l0, bifF (by omega)]
     unfold ref06_Div.j0
     rw [rnorm_ok (by omega) (by omega)]; rfl
 | d + 1, i, k + 1, l, q, hd, hi, hq, hq2, hn, hz, hk => by
   have hll : l.length ≤ i + 1 := by rw [← hn]; exact nrm_bound fun j hj => hz j hj
   have e2 : IntKind.i64.wrap ((i : Int) - (s : Int)) = ((i - s : Nat) : Int) := by rw [i64_id (by omega) (by omega)]; omega
   have e4 : IntKind.i64.wrap ((i : Int) - 1) = (i : Int) - 1 := i64_id (by omega) (by omega)
   rw [ref06_Div.l0, bifT (by omega), grdT (by rw [bi_length, hg.1]; omega), rcoef_ok, Option.bind_some, bi_at, hg.2, show (((1 : GF).1 : Nat) : Int) = 1 from rfl, rdiv1 (by omega), Option.bind_some, e2, grdT (by rw [bi_length]; omega), rscale_ok (by rw [hg.1]; omega) (by omega), Option.bind_some]
   generalize hc : l.getD i 0 = c
   have hn1 := nrm_le (g.map (c * ·))
   rw [List.length_map, hg.1] at hn1
   rw [rup_ok (by omega) (by omega) (by omega), Option.bind_some]
   have hn2 := nrm_le (List.replicate (i - s) 0 ++ nrm (g.map (c * ·)))
   rw [List.length_append, List.length_replicate] at hn2
   rw [radd_ok (by omega) (by omega) (by omega), Option.bind_some, Int.toNat_natCast, bi_set, e4]
   have hget : ∀ j, i ≤ j → (nrm (padd l (nrm (List.replicate (i - s) 0 ++ nrm (g.map (c * ·)))))).getD j 0 = 0 := fun j hj => by
     have e5 : (List.replicate (i - s) 0 ++ nrm (g.map (c * ·))).getD j 0 = (nrm (g.map (c * ·))).getD (j - (i - s)) 0 := by
       simp only [List.getD_eq_getElem?_getD]
       rw [List.getElem?_append_right (by simp; omega), List.length_replicate]
     rw [nrm_get, padd_get, nrm_get, e5, nrm_get]
     rcases Nat.eq_or_lt_of_le hj with rfl | hlt
     · rw [show i - (i - s) = s by omega]
       have hsl : s < g.length := by rw [hg.1]; omega
       have : (g.map (c * ·)).getD s 0 = c * g.getD s 0 := by simp [List.getD_eq_getElem?_getD, hsl]
       rw [this, hg.2, GF.mul_one, hc, GF.add_self]
     · rw [hz j (by omega), getD_ge (by rw [List.length_map, hg.1]; omega), GF.add_zero]
   match i, hd, hi, hq, hz, e2, e4, hget, hc, hll, hn2 with
   | 0, hd, hi, hq, hz, e2, e4, hget, hc, hll, hn2 =>
     have hd0 : d = 0 := by omega
     have hs0 : s = 0 := by omega
     refine ⟨nrm (padd l (nrm (List.replicate (0 - s) 0 ++ nrm (g.map (c * ·))))), bi (nrm (q.set (0 - s) c)), ?_, fun x hx => ?_, ?_⟩
     · rw [← nrm_nrm]; exact nrm_bound fun j hj => hget j (by omega)
     · rw [nrm_pv, padd_pv, nrm_pv, pv_append, pv_zeros, GF.zero_add, nrm_pv, pv_map, hx, GF.mul_zero, GF.mul_zero, GF.add_zero]
     · obtain ⟨k, rfl⟩ : ∃ m, k = m + 1 := ⟨k - 1, by omega⟩
       rw [ref06_Div.l0, bifF (by omega)]
       unfold ref06_Div.j0
       rw [rnorm_ok (by rw [List.length_set]; omega) (by rw [List.length_set]; omega)]; rfl
   | i + 1, hd, hi, hq, hz, e2, e4, hget, hc, hll, hn2 =>
     rw [show ((i + 1 : Nat) : Int) - 1 = (i : Int) by omega]
     obtain ⟨R, q', r1, r2, r3⟩ := rdiv_l0 hg hs d i k (nrm (padd l (nrm (List.replicate (i + 1 - s) 0 ++ nrm (g.map (c * ·)))))) (q.set (i + 1 - s) c) (by omega) (by omega) (by rw [List.length_set]; omega) (by rw [List.length_set]; omega) (nrm_nrm _) hget (by omega)
     refine ⟨R, q', r1, fun x hx => ?_, r3⟩
     rw [r2 x hx, nrm_pv, padd_pv, nrm_pv, pv_append, pv_zeros, GF.zero_add, nrm_pv, pv_map, hx, GF.mul_zero, GF.mul_zero, GF.add_zero]
theorem rmod_ok {s k : Nat} {g a : List GF} (hg : Mon s g) (hs0 : 0 < s) (hs : s ≤ 254) (ha : a.length < 500) (hk : 5000 < k) :
   ∃ R : List GF, R.length ≤ s ∧ (∀ x, pv g x = 0 → pv R x = pv a x) ∧ ref06_Mod.f k (bi a) (bi g) = some (bi R, true) := by
 have hdeg : ref05_Deg.f k (bi g) = some (s : Int) := by rw [rdeg_ok (by rw [hg.1]; omega) (by rw [hg.1]; omega), nrm_mon hg, hg.1]; congr 1; omega
 have hna := nrm_le a
 have e1 : IntKind.i64.wrap (((bi a).length : Int) + 1) = ((a.length + 1 : Nat) : Int) := by rw [bi_length, i64_id (by omega) (by omega)]; omega
 have hz : ∀ j, a.length + 1 ≤ j → (nrm a).getD j 0 = 0 := fun j hj => getD_ge (by omega)
 have key : ∃ (R : List GF) (q' : List Int), R.length ≤ s ∧ (∀ x, pv g x = 0 → pv R x = pv (nrm a) x) ∧ ref06_Div.l0 k (bi g) (s : Int) (bi (nrm a)) (bi (List.replicate (a.length + 1) 0)) (a.length : Int) = some (q', bi R, true) := by
   by_cases hle : s ≤ a.length + 1
   · exact rdiv_l0 hg hs (a.length + 1 - s) a.length k (nrm a) (List.replicate (a.length + 1) 0) (by omega) (by omega) (by simp; omega) (by simp; omega) (nrm_nrm a) hz (by omega)
   · refine ⟨nrm a, bi (nrm (List.replicate (a.length + 1) 0)), by omega, fun x _ => rfl, ?_⟩
     obtain ⟨k, rfl⟩ : ∃ m, k = m + 1 := ⟨k - 1, by omega⟩
     rw [ref06_Div.l0, bifF (by omega)]
     unfold ref06_Div.j0
     rw [rnorm_ok (by simp; omega) (by simp; omega)]; rfl
 obtain ⟨R, q', r1, r2, r3⟩ := key
 refine ⟨R, r1, fun x hx => by rw [r2 x hx, nrm_pv], ?_⟩
 unfold ref06_Mod.f ref06_Div.f
 rw [hdeg, Option.bind_some, bifF (by omega), rnorm_ok (by omega) (by omega), Option.bind_some, e1, grdT (by omega), Int.toNat_natCast, bi_zeros, bi_length, r3]; rfl
theorem renc_l0 {s : Nat} {R m : List GF} {b : Bool} (hs : s < 1000) (hm : m.length < 1000) : ∀ (d i k : Nat), i + d = s → d < k →
   ref11_Encode.l0 k (bi m) (s : Int) (bi R, b) (bi ((List.range i).map fun j => R.getD j 0)) (i : Int) = some (bi ((List.range s).map (fun j => R.getD j 0) ++ m), 0)
 | d, i, 0, _, h => by omega
 | 0, i, k + 1, hd, hk => by
   obtain rfl : i = s := by omega
   rw [ref11_Encode.l0, bifF (by omega), grdT (by rw [bi_length, bi_length]; simp; omega), bi_append]
 | d + 1, i, k + 1, hd, hk => by
   rw [ref11_Encode.l0, bifT (by omega)]
   simp only
   rw [rcoef_ok, Option.bind_some, grdT (by rw [bi_length]; simp; omega), wrap1 (by omega)]
   have e : bi ((List.range i).map fun j => R.getD j 0) ++ [(((R.getD i 0).1 : Nat) : Int)] = bi ((List.range (i + 1)).map fun j => R.getD j 0) := by
     rw [List.range_succ, List.map_append, bi_append]; rfl
   rw [e]
   exact renc_l0 hs hm d (i + 1) k (by omega) (by omega)
theorem map_getD {R : List GF} {s : Nat} (h : R.length ≤ s) : (List.range s).map (fun j => R.getD j 0) = R ++ List.replicate (s - R.length) 0 := by
 apply List.ext_getElem
 · simp; omega
 · intro j h1 h2
   rw [List.getElem_map, List.getElem_range, List.getElem_append]
   split
   · rename_i h'; rw [getD_lt h']
   · rename_i h'; rw [List.getElem_replicate, getD_ge (by omega)]
theorem rencode_ok {N K B k : Nat} {m : List GF} (h : Cd N K B) (hm : m.length = K) (hk : 30000 < k) : ∃ W, Wd N K B m W ∧ ref11_Encode.f k ((N : Int), (K : Int), (B : Int)) (bi m) = some (bi W, 0) := by
 obtain ⟨c1, c2, c3, c4⟩ := id h
 have hgm := genP_mon (rts B (N - K))
 rw [rts_length] at hgm
 have hna := nrm_le (List.replicate (N - K) 0 ++ m)
 rw [List.length_append, List.length_replicate, hm] at hna
 obtain ⟨R, r1, r2, r3⟩ := rmod_ok (k := k) (a := nrm (List.replicate (N - K) 0 ++ m)) hgm (by omega) (by omega) (by omega) (by omega)
 have hl := renc_l0 (s := N - K) (R := R) (m := m) (b := true) (by omega) (by omega) (N - K) 0 k (by omega) (by omega)
 rw [map_getD r1] at hl
 refine ⟨R ++ List.replicate (N - K - R.length) 0 ++ m, ⟨?_, ?_, ?_⟩, ?_⟩
 · simp [hm]; omega
 · exact List.drop_left' (by simp; omega)
 · intro x hx
   have e1 := r2 x (genP_root hx)
   rw [List.append_assoc, pv_append, pv_append, pv_zeros, GF.zero_add, List.length_replicate, ← GF.mul_assoc, ← pow_add, e1, nrm_pv, pv_append, pv_zeros, GF.zero_add, List.length_replicate, show R.length + (N - K - R.length) = N - K by omega, GF.add_self]
 · unfold ref11_Encode.f
   simp only
   rw [rright_ok h, Option.bind_some, bifNF rfl, bifNF (by rw [bi_length, hm]), rspace_ok h, Option.bind_some, rup_ok (by omega) (by omega) (by omega), Option.bind_some, rgen_ok h (by omega), Option.bind_some, r3, Option.bind_some]
   exact hl
def tx (l : List UInt8) : ByteArray := ⟨⟨l⟩⟩
theorem tx_size (l : List UInt8) : (tx l).size = l.length := rfl
theorem cat_tx (a b : List UInt8) : cat (tx a) (tx b) = tx (a ++ b) := rfl
theorem tx_inj {a b : List UInt8} : tx a = tx b ↔ a = b := ⟨fun h => by injection h with h; injection h, fun h => by rw [h]⟩
def hd (n : Nat) : UInt8 := if n < 10 then UInt8.ofNat (48 + n) else UInt8.ofNat (87 + n)
def hexL (p : List GF) : List UInt8 := p.flatMap fun a => [hd (a.1 / 16), hd (a.1 % 16)]
def hexT (p : List GF) : ByteArray := if p = [] then tx [45] else tx (hexL p)
theorem hexL_cons (a : GF) (p : List GF) : hexL (a :: p) = hd (a.1 / 16) :: hd (a.1 % 16) :: hexL p := rfl
theorem hexL_append (p q : List GF) : hexL (p ++ q) = hexL p ++ hexL q := by simp [hexL]
theorem hexL_length : ∀ p : List GF, (hexL p).length = 2 * p.length
 | [] => rfl
 | a :: p => by rw [hexL_cons]; simp [hexL_length p]; omega
theorem fmt16 (k : Nat) : ∀ d : Nat, d < 16 → strconv_FormatInt.f (k + 1) (d : Int) 16 = some (tx [hd d])
 | 0, _ => rfl
 | 1, _ => rfl
 | 2, _ => rfl
 | 3, _ => rfl
 | 4, _ => rfl
 | 5, _ => rfl
 | 6, _ => rfl
 | 7, _ => rfl
 | 8, _ => rfl
 | 9, _ => rfl
 | 10, _ => rfl
 | 11, _ => rfl
 | 12, _ => rfl
 | 13, _ => rfl
 | 14, _ => rfl
 | 15, _ => rfl
 | _ + 16, h => by omega
theorem tdiv16 {n : Nat} (h : n < 256) : IntKind.u8.wrap (Int.tdiv (n : Int) 16) = ((n / 16 : Nat) : Int) := by
 have : Int.tdiv (n : Int) 16 = ((n / 16 : Nat) : Int) := by rw [Int.tdiv_eq_ediv_of_nonneg (by omega)]; omega
 rw [this, u8_id (by omega) (by omega)]
theorem tmod16 (n : Nat) : Int.tmod (n : Int) 16 = ((n % 16 : Nat) : Int) := by rw [Int.tmod_eq_emod_of_nonneg (by omega)]; omega
theorem phex_l0 (p : List GF) (hp : p.length < 1000) : ∀ (d i k : Nat), i + d = p.length → d + 10 < k → play_hex.l0 k (bi p) (tx (hexL (p.take i))) (i : Int) = some (tx (hexL p))
 | d, i, 0, _, h => by omega
 | 0, i, k + 1, hd', hk => by
   rw [play_hex.l0, bifF (by rw [bi_length]; omega), List.take_of_length_le (by omega)]
 | d + 1, i, k + 1, hd', hk => by
   have hi : i < p.length := by omega
   obtain ⟨k', rfl⟩ : ∃ m, k = m + 1 := ⟨k - 1, by omega⟩
   have hb := (p.getD i 0).2
   have hl := hexL_length (p.take i)
   have hl2 : (p.take i).length = i := by simp; omega
   rw [play_hex.l0, bifT (by rw [bi_length]; omega), grdT (by rw [bi_length]; omega), bi_at, tdiv16 hb, wrapN (by omega), fmt16 k' _ (by omega), Option.bind_some, grdT (by rw [tx_size, tx_size, hl, hl2]; simp; omega), tmod16, wrapN (by omega), fmt16 k' _ (by omega), Option.bind_some, cat_tx, grdT (by rw [tx_size, tx_size, List.length_append, hl, hl2]; simp; omega), cat_tx, wrap1 (by omega)]
   have e : hexL (p.take i) ++ [hd ((p.getD i 0).1 / 16)] ++ [hd ((p.getD i 0).1 % 16)] = hexL (p.take (i + 1)) := by
     rw [List.take_succ_eq_append_getElem hi, getD_lt hi, hexL_append, List.append_assoc]; rfl
   rw [e]
   exact phex_l0 p hp d (i + 1) (k' + 1) (by omega) (by omega)
theorem phex_ok {p : List GF} {k : Nat} (hp : p.length < 1000) (hk : 2000 < k) : play_hex.f k (bi p) = some (hexT p) := by
 unfold play_hex.f hexT
 cases p with
 | nil => rw [bifT (by rfl), if_pos rfl]; rfl
 | cons a p =>
   rw [bifF (by rw [bi_length]; simp; omega), if_neg (by simp)]
   exact phex_l0 (a :: p) hp (a :: p).length 0 k (by omega) (by omega)
theorem ext16 {n : Nat} (h : n < 16) : ext P_str10 (n : Int) ((n : Int) + 1) = tx [hd n] := by
 have hc : (List.range 16).all (fun n => decide ((ext P_str10 (n : Int) ((n : Int) + 1)).data.toList = [hd n])) = true := by decide +kernel
 have := of_decide_eq_true (List.all_eq_true.1 hc n (List.mem_range.2 h))
 apply ByteArray.ext
 apply Array.ext'
 exact this
theorem rhex_l0 (p : List GF) (hp : p.length < 1000) : ∀ (d i k : Nat), i + d = p.length → d + 10 < k → ref24_Hex.l0 k (bi p) (tx (hexL (p.take i))) (i : Int) = some (tx (hexL p))
 | d, i, 0, _, h => by omega
 | 0, i, k + 1, hd', hk => by
   rw [ref24_Hex.l0, bifF (by rw [bi_length]; omega), List.take_of_length_le (by omega)]
 | d + 1, i, k + 1, hd', hk => by
   have hi : i < p.length := by omega
   have hb := (p.getD i 0).2
   have hl := hexL_length (p.take i)
   have hl2 : (p.take i).length = i := by simp; omega
   have hsz : P_str10.size = 16 := rfl
   have e1 : IntKind.u8.wrap ((((p.getD i 0).1 / 16 : Nat) : Int) + 1) = (((p.getD i 0).1 / 16 : Nat) : Int) + 1 := u8_id (by omega) (by omega)
   have e2 : IntKind.u8.wrap ((((p.getD i 0).1 % 16 : Nat) : Int) + 1) = (((p.getD i 0).1 % 16 : Nat) : Int) + 1 := u8_id (by omega) (by omega)
   rw [ref24_Hex.l0, bifT (by rw [bi_length]; omega)]
   simp only [bi_at, tdiv16 hb, tmod16, e1, e2, ext16 (show (p.getD i 0).1 / 16 < 16 by omega), ext16 (show (p.getD i 0).1 % 16 < 16 by omega), cat_tx]
   rw [grdT (by rw [bi_length]; omega), grdT (by rw [bi_length]; omega), grdT (by rw [hsz]; omega), grdT (by rw [tx_size, tx_size, hl, hl2]; simp; omega), grdT (by rw [bi_length]; omega), grdT (by rw [bi_length]; omega), grdT (by rw [hsz]; omega), grdT (by rw [tx_size, tx_size, List.length_append, hl, hl2]; simp; omega), wrap1 (by omega)]
   have e : hexL (p.take i) ++ [hd ((p.getD i 0).1 / 16)] ++ [hd ((p.getD i 0).1 % 16)] = hexL (p.take (i + 1)) := by
     rw [List.take_succ_eq_append_getElem hi, getD_lt hi, hexL_append, List.append_assoc]; rfl
   rw [e]
   exact rhex_l0 p hp d (i + 1) k (by omega) (by omega)
theorem rhex_ok {p : List GF} {k : Nat} (hp : p.length < 1000) (hk : 2000 < k) : ref24_Hex.f k (bi p) = some (hexT p) := by
 unfold ref24_Hex.f hexT
 cases p with
 | nil => rw [bifT (by rfl), if_pos rfl]; rfl
 | cons a p =>
   rw [bifF (by rw [bi_length]; simp; omega), if_neg (by simp)]
   exact rhex_l0 (a :: p) hp (a :: p).length 0 k (by omega) (by omega)
theorem dec_ascii {l : List UInt8} {j : Nat} {b : UInt8} (h : l[j]? = some b) (hb : b.toNat < 128) : Utf8.decode (tx l) j = (b.toNat, 1) := by
 rw [Lib.decode_N]
 have : (tx l).data.toList.getD j 0 = b := by show l.getD j 0 = b; rw [List.getD_eq_getElem?_getD, h]; rfl
 rw [this]
 exact Lib.decodeN_ascii _ _ _ _ _ hb
theorem hd_fact {n : Nat} (h : n < 16) : (hd n).toNat < 128 ∧ play_half.f (((hd n).toNat : Nat) : Int) = some ((n : Int), true) ∧ (hd n == 10) = false ∧ (hd n == 32) = false ∧ (hd n == 45) = false := by
 have hc : (List.range 16).all (fun n => decide ((hd n).toNat < 128 ∧ play_half.f (((hd n).toNat : Nat) : Int) = some ((n : Int), true) ∧ (hd n == 10) = false ∧ (hd n == 32) = false ∧ (hd n == 45) = false)) = true := by decide +kernel
 exact of_decide_eq_true (List.all_eq_true.1 hc n (List.mem_range.2 h))
theorem or_fact {n : Nat} (h : n < 256) : bits .or .u8 (IntKind.u8.wrap (0 * 2 ^ (min (4 : Int).toNat 8))) ((n / 16 : Nat) : Int) = ((n / 16 : Nat) : Int) ∧ bits .or .u8 (IntKind.u8.wrap (((n / 16 : Nat) : Int) * 2 ^ (min (4 : Int).toNat 8))) ((n % 16 : Nat) : Int) = (n : Int) := by
 have hc : (List.range 256).all (fun n => decide (bits .or .u8 (IntKind.u8.wrap (0 * 2 ^ (min (4 : Int).toNat 8))) ((n / 16 : Nat) : Int) = ((n / 16 : Nat) : Int) ∧ bits .or .u8 (IntKind.u8.wrap (((n / 16 : Nat) : Int) * 2 ^ (min (4 : Int).toNat 8))) ((n % 16 : Nat) : Int) = (n : Int))) = true := by decide +kernel
 exact of_decide_eq_true (List.all_eq_true.1 hc n (List.mem_range.2 h))
theorem hexL_get : ∀ (p : List GF) (j : Nat), j < p.length → (hexL p)[2 * j]? = some (hd ((p.getD j 0).1 / 16)) ∧ (hexL p)[2 * j + 1]? = some (hd ((p.getD j 0).1 % 16))
 | [], j, h => by simp at h
 | a :: p, 0, _ => ⟨rfl, rfl⟩
 | a :: p, j + 1, h => by
   obtain ⟨h1, h2⟩ := hexL_get p j (by simpa using h)
   rw [hexL_cons, show 2 * (j + 1) = 2 * j + 1 + 1 by omega, List.getElem?_cons_succ, List.getElem?_cons_succ, List.getElem?_cons_succ, List.getElem?_cons_succ, List.getD_cons_succ]
   exact ⟨h1, h2⟩
theorem unhex_l0 (p : List GF) (hp : p.length < 1000) : ∀ (d j k : Nat), j + d = p.length → 2 * d < k → play_unhex.l0 k (tx (hexL p)) (bi (p.take j ++ List.replicate d 0)) (2 * j) = some (bi p, true)
 | d, j, 0, _, h => by omega
 | 0, j, k + 1, hd', hk => by
   rw [play_unhex.l0, bifF (by rw [tx_size, hexL_length]; omega), List.take_of_length_le (by omega)]; simp
 | d + 1, j, k + 1, hd', hk => by
   obtain ⟨k, rfl⟩ : ∃ m, k = m + 1 := ⟨k - 1, by omega⟩
   have hj : j < p.length := by omega
   have hb := (p.getD j 0).2
   obtain ⟨g1, g2⟩ := hexL_get p j hj
   obtain ⟨a1, a2, _⟩ := hd_fact (n := (p.getD j 0).1 / 16) (by omega)
   obtain ⟨b1, b2, _⟩ := hd_fact (n := (p.getD j 0).1 % 16) (by omega)
   obtain ⟨o1, o2⟩ := or_fact hb
   have d1 := dec_ascii g1 a1
   have d2 := dec_ascii g2 b1
   have hjl : (p.take j).length = j := by simp; omega
   have e1 : IntKind.i64.wrap (Int.tdiv ((2 * j : Nat) : Int) 2) = (j : Int) := by
     have : Int.tdiv ((2 * j : Nat) : Int) 2 = (j : Int) := by rw [Int.tdiv_eq_ediv_of_nonneg (by omega)]; omega
     rw [this, wrapN (by omega)]
   have e2 : IntKind.i64.wrap (Int.tdiv ((2 * j + 1 : Nat) : Int) 2) = (j : Int) := by
     have : Int.tdiv ((2 * j + 1 : Nat) : Int) 2 = (j : Int) := by rw [Int.tdiv_eq_ediv_of_nonneg (by omega)]; omega
     rw [this, wrapN (by omega)]
   have hlen : (p.take j ++ List.replicate (d + 1) (0 : GF)).length = p.length := by simp; omega
   have hz : (p.take j ++ List.replicate (d + 1) (0 : GF)).getD j 0 = 0 := by
     simp only [List.getD_eq_getElem?_getD]
     rw [List.getElem?_append_right (by omega), hjl, Nat.sub_self]; rfl
   rw [play_unhex.l0, bifT (by rw [tx_size, hexL_length]; omega)]
   unfold dcC dcW
   rw [d1]
   simp only
   rw [a2, Option.bind_some]
   simp only [Bool.not_true, cond_false]
   rw [e1, grdT (by rw [bi_length]; omega), grdT (by rw [bi_length]; omega), bi_at, hz, show (((0 : GF).1 : Nat) : Int) = 0 from rfl, o1, Int.toNat_natCast]
   have hset : (bi (p.take j ++ List.replicate (d + 1) 0)).set j (((p.getD j 0).1 / 16 : Nat) : Int) = bi (p.take j ++ GF.of ((p.getD j 0).1 / 16) (by omega) :: List.replicate d 0) := by
     have := bi_set (p.take j ++ List.replicate (d + 1) 0) j (GF.of ((p.getD j 0).1 / 16) (by omega))
     refine this.trans ?_
     rw [List.set_append_right _ _ (by omega), hjl, Nat.sub_self, List.replicate_succ, List.set_cons_zero]
   rw [hset]
   have hlen2 : (p.take j ++ GF.of ((p.getD j 0).1 / 16) (by omega) :: List.replicate d 0).length = p.length := by simp; omega
   have hz2 : (p.take j ++ GF.of ((p.getD j 0).1 / 16) (by omega) :: List.replicate d 0).getD j 0 = GF.of ((p.getD j 0).1 / 16) (by omega) := by
     simp only [List.getD_eq_getElem?_getD]
     rw [List.getElem?_append_right (by omega), hjl, Nat.sub_self]; rfl
   rw [play_unhex.l0, bifT (by rw [tx_size, hexL_length]; omega)]
   unfold dcC dcW
   rw [d2]
   simp only
   rw [b2, Option.bind_some]
   simp only [Bool.not_true, cond_false]
   rw [e2, grdT (by rw [bi_length]; omega), grdT (by rw [bi_length]; omega), bi_at, hz2, show (((GF.of ((p.getD j 0).1 / 16) (by omega)).1 : Nat) : Int) = (((p.getD j 0).1 / 16 : Nat) : Int) from rfl, o2, Int.toNat_natCast, bi_set]
   have hset2 : (p.take j ++ GF.of ((p.getD j 0).1 / 16) (by omega) :: List.replicate d 0).set j (p.getD j 0) = p.take (j + 1) ++ List.replicate d 0 := by
     rw [List.set_append_right _ _ (by omega), hjl, Nat.sub_self, List.set_cons_zero, List.take_succ_eq_append_getElem hj, getD_lt hj, List.append_assoc]; rfl
   rw [hset2, show 2 * j + 1 + 1 = 2 * (j + 1) by omega]
   exact unhex_l0 p hp d (j + 1) k (by omega) (by omega)
theorem unhex_ok {p : List GF} {k : Nat} (hp : p.length < 1000) (hk : 3000 < k) : play_unhex.f k (hexT p) = some (bi p, true) := by
 unfold play_unhex.f hexT
 cases p with
 | nil => rw [if_pos rfl, bifT (by rfl)]; rfl
 | cons a p =>
   have h1 : ¬ tx (hexL (a :: p)) = P_str4 := fun e => by
     have e' : hexL (a :: p) = [45] := tx_inj.1 e
     have := congrArg List.length e'
     rw [hexL_length] at this
     simp at this; omega
   have h2 : ¬ tx (hexL (a :: p)) = P_str0 := fun e => by
     have e' : hexL (a :: p) = [] := tx_inj.1 e
     rw [hexL_cons] at e'; cases e'
   have e1 : Int.tdiv ((tx (hexL (a :: p))).size : Int) 2 = ((a :: p).length : Int) := by rw [tx_size, hexL_length, Int.tdiv_eq_ediv_of_nonneg (by omega)]; omega
   rw [if_neg (by simp), bifF h1, bifF h2, bifF (by rw [tx_size, hexL_length, Int.tmod_eq_emod_of_nonneg (by omega)]; omega), e1, wrapN (by omega), grdT (by omega), Int.toNat_natCast, bi_zeros]
   exact unhex_l0 (a :: p) hp (a :: p).length 0 k (by omega) (by omega)
set_option maxRecDepth 100000 in
theorem num_fact {n : Nat} (h : n < 256) : (num (n : Int)).length ≤ 4 ∧ num (n : Int) ≠ [] ∧ strings_Trim.f (tx (num (n : Int))) P_str7 = some (tx []) ∧ strconv_Atoi.f (tx (num (n : Int))) = some (n : Int) ∧ (num (n : Int)).all (fun b => !(b == 10) && !(b == 32)) = true := by
 have hc : (List.range 256).all (fun n => decide ((num (n : Int)).length ≤ 4 ∧ num (n : Int) ≠ [] ∧ (strings_Trim.f (tx (num (n : Int))) P_str7).map (·.data.toList) = some [] ∧ strconv_Atoi.f (tx (num (n : Int))) = some (n : Int) ∧ (num (n : Int)).all (fun b => !(b == 10) && !(b == 32)) = true)) = true := by decide +kernel
 obtain ⟨h1, h2, h3, h4, h5⟩ := of_decide_eq_true (List.all_eq_true.1 hc n (List.mem_range.2 h))
 refine ⟨h1, h2, ?_, h4, h5⟩
 cases hs : strings_Trim.f (tx (num (n : Int))) P_str7 with
 | none => rw [hs] at h3; cases h3
 | some b =>
   rw [hs] at h3
   simp only [Option.map_some, Option.some.injEq] at h3
   congr 1
   apply ByteArray.ext
   apply Array.ext'
   exact h3
theorem itoa_ok {n : Nat} (h : n < 1000) : strconv_Itoa.f (n : Int) = some (tx (num (n : Int))) := by
 unfold strconv_Itoa.f
 rw [grdT (by omega)]; rfl
def nums (l : List Nat) : List ByteArray := l.map fun n : Nat => tx (num (n : Int))
theorem numbers_l0 (l : List Nat) (hl : l.length < 100) (hb : ∀ n ∈ l, n < 256) : ∀ (d i k : Nat), i + d = l.length → d < k →
   play_numbers.l0 k (nums l) ((l.take i).map fun n : Nat => (n : Int)) (i : Int) = some (l.map (fun n : Nat => (n : Int)), true)
 | d, i, 0, _, h => by omega
 | 0, i, k + 1, hd', hk => by
   rw [play_numbers.l0, bifF (by simp [nums]; omega), List.take_of_length_le (by omega)]
 | d + 1, i, k + 1, hd', hk => by
   have hi : i < l.length := by omega
   have hn := hb l[i] (List.getElem_mem hi)
   obtain ⟨f1, f2, f3, f4, _⟩ := num_fact hn
   have ea : at_ ByteArray.empty (nums l) (i : Int) = tx (num (l[i] : Int)) := by
     rw [at_nat (by simp [nums]; omega)]; simp [nums]
   have hs : (tx (num (l[i] : Int))).size ≤ 4 := f1
   have hne : ¬ tx (num (l[i] : Int)) = P_str0 := fun e => f2 (tx_inj.1 e)
   rw [play_numbers.l0, bifT (by simp [nums]; omega), grdT (by simp [nums]; omega), ea, bifF hne, bifF (by omega), f3, Option.bind_some, bifNF (by rfl), f4, Option.bind_some, grdT (by simp; omega), wrap1 (by omega)]
   have e : (l.take i).map (fun n : Nat => (n : Int)) ++ [(l[i] : Int)] = (l.take (i + 1)).map fun n : Nat => (n : Int) := by
     rw [List.take_succ_eq_append_getElem hi, List.map_append]; rfl
   rw [e]
   exact numbers_l0 l hl hb d (i + 1) k (by omega) (by omega)
theorem numbers_ok {l : List Nat} {k : Nat} (hl : l.length < 100) (hb : ∀ n ∈ l, n < 256) (hk : 100 < k) : play_numbers.f k (nums l) = some (l.map (fun n : Nat => (n : Int)), true) := numbers_l0 l hl hb l.length 0 k (by omega) (by omega)
theorem spl_one (c : UInt8) : ∀ l : List UInt8, (∀ b ∈ l, (b == c) = false) → spl c l = [l]
 | [], _ => rfl
 | b :: l, h => by
   rw [spl, h b List.mem_cons_self, spl_one c l fun x hx => h x (List.mem_cons_of_mem _ hx)]; rfl
theorem spl_more (c : UInt8) (r : List UInt8) : ∀ l : List UInt8, (∀ b ∈ l, (b == c) = false) → spl c (l ++ c :: r) = l :: spl c r
 | [], _ => by rw [List.nil_append, spl]; simp
 | b :: l, h => by
   rw [List.cons_append, spl, h b List.mem_cons_self, spl_more c r l fun x hx => h x (List.mem_cons_of_mem _ hx)]; rfl
def cln (l : List UInt8) : Bool := l.all fun b => !(b == 10) && !(b == 32)
theorem cln_10 {l : List UInt8} (h : cln l = true) : ∀ b ∈ l, (b == 10) = false := fun b hb => by
 have := List.all_eq_true.1 h b hb
 simp only [Bool.and_eq_true, Bool.not_eq_true'] at this
 exact this.1
theorem cln_32 {l : List UInt8} (h : cln l = true) : ∀ b ∈ l, (b == 32) = false := fun b hb => by
 have := List.all_eq_true.1 h b hb
 simp only [Bool.and_eq_true, Bool.not_eq_true'] at this
 exact this.2
theorem cln_hex : ∀ p : List GF, cln (hexL p) = true
 | [] => rfl
 | a :: p => by
   have ha := a.2
   obtain ⟨_, _, a1, a2, _⟩ := hd_fact (n := a.1 / 16) (by omega)
   obtain ⟨_, _, b1, b2, _⟩ := hd_fact (n := a.1 % 16) (by omega)
   have ih := cln_hex p
   unfold cln at ih ⊢
   rw [hexL_cons, List.all_cons, List.all_cons, a1, a2, b1, b2, ih]; rfl
def hexB (p : List GF) : List UInt8 := if p = [] then [45] else hexL p
theorem hexT_eq (p : List GF) : hexT p = tx (hexB p) := by unfold hexT hexB; split <;> rfl
theorem cln_hexB (p : List GF) : cln (hexB p) = true := by
 unfold hexB; split
 · rfl
 · exact cln_hex p
theorem hexB_length (p : List GF) : (hexB p).length ≤ 2 * p.length + 1 := by
 unfold hexB; split
 · simp
 · rw [hexL_length]; omega
theorem split_nl {t : List UInt8} (h : t.length ≤ 4294967280) : strings_Split.f (tx t) r_str14 = some ((spl 10 t).map tx) := by
 unfold strings_Split.f
 show grd (decide ((tx t).size ≤ 4294967280)) _ = _
 rw [grdT (show (tx t).size ≤ 4294967280 from h)]; rfl
theorem split_bl {t : List UInt8} (h : t.length ≤ 4294967280) : strings_Split.f (tx t) r_str15 = some ((spl 32 t).map tx) := by
 unfold strings_Split.f
 show grd (decide ((tx t).size ≤ 4294967280)) _ = _
 rw [grdT (show (tx t).size ≤ 4294967280 from h)]; rfl
theorem wcode_ok {a0 a1 a2 : Int} (b0 : 0 ≤ a0 ∧ a0 ≤ 255) (b1 : 0 ≤ a1 ∧ a1 ≤ 255) (b2 : 0 ≤ a2 ∧ a2 ≤ 255) : ∃ N K B : Nat, Cd N K B ∧ N ≤ 69 ∧ law10_Code.f a0 a1 a2 = some ((N : Int), (K : Int), (B : Int)) := by
 obtain ⟨n, rfl⟩ : ∃ n : Nat, a0 = n := ⟨a0.toNat, by omega⟩
 obtain ⟨k, rfl⟩ : ∃ n : Nat, a1 = n := ⟨a1.toNat, by omega⟩
 obtain ⟨b, rfl⟩ : ∃ n : Nat, a2 = n := ⟨a2.toNat, by omega⟩
 have tm : ∀ x y : Nat, Int.tmod (x : Int) (y : Int) = ((x % y : Nat) : Int) := fun x y => by rw [Int.tmod_eq_emod_of_nonneg (by omega)]; omega
 have key : ∀ N : Nat, 2 ≤ N → N ≤ 69 → ∃ K B : Nat, Cd N K B ∧ law10_Code.j0 (k : Int) (b : Int) (N : Int) = some ((N : Int), (K : Int), (B : Int)) := fun N h1 h2 => by
   have hm := Nat.mod_lt k (show 0 < N - 1 by omega)
   refine ⟨1 + k % (N - 1), b % 255, ⟨by omega, by omega, by omega, by omega⟩, ?_⟩
   unfold law10_Code.j0
   have e1 : IntKind.i64.wrap ((N : Int) - 1) = ((N - 1 : Nat) : Int) := by rw [i64_id (by omega) (by omega)]; omega
   rw [e1, grdT (by omega), wrapN (by omega), wrapN (by omega), tm, show (255 : Int) = ((255 : Nat) : Int) from rfl, tm, i64_id (by omega) (by omega)]
   rfl
 unfold law10_Code.f
 rw [show (32 : Int) = ((32 : Nat) : Int) from rfl, tm, show (40 : Int) = ((40 : Nat) : Int) from rfl, tm, show (21 : Int) = ((21 : Nat) : Int) from rfl, tm]
 by_cases h : n % 32 = 31
 · obtain ⟨K, B, h1, h2⟩ := key (30 + k % 40) (by omega) (by omega)
   have e : IntKind.i64.wrap (30 + IntKind.i64.wrap ((k % 40 : Nat) : Int)) = ((30 + k % 40 : Nat) : Int) := by rw [wrapN (by omega), i64_id (by omega) (by omega)]; omega
   exact ⟨_, K, B, h1, by omega, by rw [bifT (by omega), e, h2]⟩
 · obtain ⟨K, B, h1, h2⟩ := key (2 + n % 21) (by omega) (by omega)
   have e : IntKind.i64.wrap (2 + IntKind.i64.wrap ((n % 21 : Nat) : Int)) = ((2 + n % 21 : Nat) : Int) := by rw [wrapN (by omega), i64_id (by omega) (by omega)]; omega
   exact ⟨_, K, B, h1, by omega, by rw [bifF (by omega), e, h2]⟩
theorem msg_ok {N K B : Nat} (hK : K < 1000) (p : List GF) : ∃ m : List GF, m.length = K ∧ law11_Msg.f ((N : Int), (K : Int), (B : Int)) (bi p) = some (bi m) := by
 refine ⟨cpy 0 (List.replicate K (0 : GF)).length p (List.replicate K 0), by rw [cpy_len0]; simp, ?_⟩
 unfold law11_Msg.f
 simp only
 rw [grdT (by omega), Int.toNat_natCast]
 congr 1
 unfold cpy
 rw [bi_zeros, bi_length, bi_take, bi_take, bi_length, bi_drop, bi_append, bi_append]
def codeL (N K B : Nat) : List UInt8 := [99, 111, 100, 101] ++ 32 :: (num (N : Int) ++ 32 :: (num (K : Int) ++ 32 :: num (B : Int)))
def pickL : List UInt8 := [112, 105, 99, 107, 32, 49, 32, 49]
def encL (m : List GF) : List UInt8 := [101, 110, 99, 111, 100, 101] ++ 32 :: hexB m
def decL (m : List GF) : List UInt8 := [100, 101, 99, 111, 100, 101] ++ 32 :: hexB m
theorem line_ok {N K B : Nat} (hN : N < 256) (hK : K < 256) (hB : B < 256) : law24_Line.f ((N : Int), (K : Int), (B : Int)) = some (tx (codeL N K B ++ [10])) := by
 obtain ⟨f1, _⟩ := num_fact hN
 obtain ⟨g1, _⟩ := num_fact hK
 obtain ⟨h1, _⟩ := num_fact hB
 unfold law24_Line.f
 simp only
 rw [itoa_ok (by omega), itoa_ok (by omega), itoa_ok (by omega)]
 simp only [Option.bind_some]
 rw [show P_str8 = tx [99, 111, 100, 101, 32] from rfl, show P_str5 = tx [32] from rfl, show P_str9 = tx [10] from rfl]
 repeat rw [cat_tx]
 rw [grdT (by simp only [tx_size, List.length_append, List.length_cons, List.length_nil]; omega), grdT (by simp only [tx_size, List.length_append, List.length_cons, List.length_nil]; omega), grdT (by simp only [tx_size, List.length_append, List.length_cons, List.length_nil]; omega), grdT (by simp only [tx_size, List.length_append, List.length_cons, List.length_nil]; omega), grdT (by simp only [tx_size, List.length_append, List.length_cons, List.length_nil]; omega), grdT (by simp only [tx_size, List.length_append, List.length_cons, List.length_nil]; omega)]
 simp [codeL]
theorem drop1 {a : ByteArray} {l : List ByteArray} : ((a :: l).take (a :: l).length).drop ((1 : Int).toNat) = l := by
 rw [List.take_length]; rfl
theorem words2 {a b : List UInt8} (ha : ∀ x ∈ a, (x == 32) = false) (hb : ∀ x ∈ b, (x == 32) = false) : spl 32 (a ++ 32 :: b) = [a, b] := by
 rw [spl_more 32 _ a ha, spl_one 32 b hb]
section
variable {k i : Nat} {lines : List ByteArray} {n : List Int} {out : List UInt8} {c1 c2 c3 d b : Int}
theorem run_code {N K B : Nat} (hl : at_ ByteArray.empty lines (i : Int) = tx (codeL N K B)) (hi : i < lines.length) (hi2 : i < 1000) (hc : Cd N K B) (ho : out.length ≤ 1000000) (hk : 200 < k) :
   play_Run.l0 (k + 1) lines n (tx out) c1 c2 c3 d b (i : Int) = play_Run.l0 k lines n (tx (out ++ [111, 107, 10])) (N : Int) (K : Int) (B : Int) d b ((i + 1 : Nat) : Int) := by
 obtain ⟨q1, q2, q3, q4⟩ := id hc
 obtain ⟨f1, _, _, _, f5⟩ := num_fact (n := N) (by omega)
 obtain ⟨g1, _, _, _, g5⟩ := num_fact (n := K) (by omega)
 obtain ⟨h1, _, _, _, h5⟩ := num_fact (n := B) (by omega)
 have hw : (spl 32 (codeL N K B)).map tx = tx [99, 111, 100, 101] :: nums [N, K, B] := by
   unfold codeL
   rw [spl_more 32 _ _ (by decide), spl_more 32 _ _ (cln_32 f5), spl_more 32 _ _ (cln_32 g5), spl_one 32 _ (cln_32 h5)]; rfl
 have hb : ∀ x ∈ [N, K, B], x < 256 := by simp; omega
 rw [play_Run.l0, bifT (by omega), grdT (by omega), hl, split_bl (by simp [codeL]; omega), Option.bind_some, hw]
 rw [grdT (by simp), bifT (by rfl), grdT (by simp; omega), drop1, numbers_ok (by simp) hb (by omega), Option.bind_some]
 simp only [Bool.not_true, cond_false]
 rw [bifNF (by rfl), grdT (by simp), grdT (by simp), grdT (by simp)]
 rw [show at_ 0 ([N, K, B].map fun n : Nat => (n : Int)) 0 = (N : Int) from rfl, show at_ 0 ([N, K, B].map fun n : Nat => (n : Int)) 1 = (K : Int) from rfl, show at_ 0 ([N, K, B].map fun n : Nat => (n : Int)) 2 = (B : Int) from rfl]
 rw [right_ok hc, Option.bind_some, bifNF rfl]
 unfold play_Run.j1
 rw [show cat r_str17 r_str14 = tx [111, 107, 10] from rfl, cat_tx, grdT (by decide), grdT (by rw [tx_size, tx_size]; simp; omega), wrap1 (by omega)]
theorem run_pick (hl : at_ ByteArray.empty lines (i : Int) = tx pickL) (hi : i < lines.length) (hi2 : i < 1000) (ho : out.length ≤ 1000000) (hk : 200 < k) :
   play_Run.l0 (k + 1) lines n (tx out) c1 c2 c3 d b (i : Int) = play_Run.l0 k lines n (tx (out ++ [111, 107, 10])) c1 c2 c3 1 1 ((i + 1 : Nat) : Int) := by
 have hw : (spl 32 pickL).map tx = tx [112, 105, 99, 107] :: nums [1, 1] := by rfl
 have hb : ∀ x ∈ [1, 1], x < 256 := by simp
 rw [play_Run.l0, bifT (by omega), grdT (by omega), hl, split_bl (by decide), Option.bind_some, hw]
 rw [grdT (by simp), bifF (fun e => by have := tx_inj.1 (show tx [112, 105, 99, 107] = tx [99, 111, 100, 101] from e); revert this; decide), bifT (by rfl), grdT (by simp; omega), drop1, numbers_ok (by simp) hb (by omega), Option.bind_some]
 simp only [Bool.not_true, cond_false]
 rw [bifNF (by rfl), grdT (by simp), grdT (by simp)]
 rw [show at_ 0 ([1, 1].map fun n : Nat => (n : Int)) 0 = 1 from rfl, show at_ 0 ([1, 1].map fun n : Nat => (n : Int)) 1 = 1 from rfl]
 rw [show pick_Right.f (1, 1) = some 0 from rfl, Option.bind_some, bifNF rfl]
 unfold play_Run.j2
 rw [show cat r_str17 r_str14 = tx [111, 107, 10] from rfl, cat_tx, grdT (by decide), grdT (by rw [tx_size, tx_size]; simp; omega), wrap1 (by omega)]
theorem run_encode {N K B : Nat} {m : List GF} (hl : at_ ByteArray.empty lines (i : Int) = tx (encL m)) (hi : i < lines.length) (hi2 : i < 1000) (hc : Cd N K B) (hm : m.length = K) (ho : out.length ≤ 1000000) (hk : 70000 < k) :
   ∃ W, Wd N K B m W ∧ play_Run.l0 (k + 1) lines n (tx out) (N : Int) (K : Int) (B : Int) 1 1 (i : Int) = play_Run.l0 k lines n (tx (out ++ (hexB W ++ [10]))) (N : Int) (K : Int) (B : Int) 1 1 ((i + 1 : Nat) : Int) := by
 obtain ⟨q1, q2, q3, q4⟩ := id hc
 obtain ⟨W, w1, w2⟩ := dencode_ok (k := k) (n := n) hc hm hk
 refine ⟨W, w1, ?_⟩
 have hlen := hexB_length m
 have hlen2 := hexB_length W
 have hWl := w1.len
 have hw : (spl 32 (encL m)).map tx = [tx [101, 110, 99, 111, 100, 101], tx (hexB m)] := by
   unfold encL
   rw [words2 (by decide) (cln_32 (cln_hexB m))]; rfl
 rw [play_Run.l0, bifT (by omega), grdT (by omega), hl, split_bl (by simp [encL]; omega), Option.bind_some, hw]
 rw [grdT (by simp), bifF (fun e => by have := tx_inj.1 (show tx [101, 110, 99, 111, 100, 101] = tx [99, 111, 100, 101] from e); revert this; decide), bifF (fun e => by have := tx_inj.1 (show tx [101, 110, 99, 111, 100, 101] = tx [112, 105, 99, 107] from e); revert this; decide), bifT (by rfl), grdT (by simp), drop1, bifNF (by rfl), grdT (by simp)]
 rw [show at_ ByteArray.empty [tx (hexB m)] 0 = tx (hexB m) from rfl, ← hexT_eq, unhex_ok (by omega) (by omega), Option.bind_some]
 simp only [Bool.not_true, cond_false]
 rw [w2, Option.bind_some, bifNF rfl]
 simp only
 rw [phex_ok (by omega) (by omega), Option.bind_some]
 unfold play_Run.j3
 rw [hexT_eq, show cat (tx (hexB W)) r_str14 = tx (hexB W ++ [10]) from rfl, cat_tx, grdT (by rw [tx_size, show r_str14.size = 1 from rfl]; omega), grdT (by rw [tx_size, tx_size]; simp; omega), wrap1 (by omega)]
theorem run_decode {N K B : Nat} {m W : List GF} (hl : at_ ByteArray.empty lines (i : Int) = tx (decL W)) (hi : i < lines.length) (hi2 : i < 1000) (hc : Cd N K B) (hm : m.length = K) (hW : Wd N K B m W) (ho : out.length ≤ 1000000) (hk : 70000 < k) :
   ∃ n', play_Run.l0 (k + 1) lines n (tx out) (N : Int) (K : Int) (B : Int) 1 1 (i : Int) = play_Run.l0 k lines n' (tx (out ++ (hexB m ++ 32 :: (hexB W ++ [32, 45, 10])))) (N : Int) (K : Int) (B : Int) 1 1 ((i + 1 : Nat) : Int) := by
 obtain ⟨q1, q2, q3, q4⟩ := id hc
 obtain ⟨n', w2⟩ := ddecode_ok (k := k) (n := n) hc hW (by omega)
 refine ⟨n', ?_⟩
 have hlen := hexB_length m
 have hlen2 := hexB_length W
 have hWl := hW.len
 have hw : (spl 32 (decL W)).map tx = [tx [100, 101, 99, 111, 100, 101], tx (hexB W)] := by
   unfold decL
   rw [words2 (by decide) (cln_32 (cln_hexB W))]; rfl
 rw [play_Run.l0, bifT (by omega), grdT (by omega), hl, split_bl (by simp [decL]; omega), Option.bind_some, hw]
 rw [grdT (by simp), bifF (fun e => by have := tx_inj.1 (show tx [100, 101, 99, 111, 100, 101] = tx [99, 111, 100, 101] from e); revert this; decide), bifF (fun e => by have := tx_inj.1 (show tx [100, 101, 99, 111, 100, 101] = tx [112, 105, 99, 107] from e); revert this; decide), bifF (fun e => by have := tx_inj.1 (show tx [100, 101, 99, 111, 100, 101] = tx [101, 110, 99, 111, 100, 101] from e); revert this; decide), bifT (by rfl), grdT (by simp), drop1, bifF (by simp), grdT (by simp)]
 rw [show at_ ByteArray.empty [tx (hexB W)] 0 = tx (hexB W) from rfl, ← hexT_eq, unhex_ok (by omega) (by omega), Option.bind_some, hexT_eq, grdT (by simp), drop1]
 have hnum := numbers_ok (l := []) (k := k) (by simp) (by simp) (by omega)
 rw [show nums [] = [] from rfl] at hnum
 rw [hnum, Option.bind_some]
 simp only [Bool.not_true, cond_false, List.map_nil]
 rw [w2, Option.bind_some, bifNF rfl]
 simp only
 rw [phex_ok (by omega) (by omega), Option.bind_some, phex_ok (by omega) (by omega), Option.bind_some]
 have hlist : play_list.f k [] r_str18 = some (tx [45]) := rfl
 rw [hlist, Option.bind_some, hexT_eq, hexT_eq]
 have hjoin : Lib.join [hexB m, hexB W, [45]] [32] = hexB m ++ 32 :: (hexB W ++ [32, 45]) := by simp [Lib.join, List.intercalate]
 have hsaid : play_said.f [tx (hexB m), tx (hexB W), tx [45]] = some (tx (hexB m ++ 32 :: (hexB W ++ [32, 45]))) := by
   unfold play_said.f strings_Join.f
   have e : ([tx (hexB m), tx (hexB W), tx [45]] : List ByteArray).map (·.data.toList) = [hexB m, hexB W, [45]] := rfl
   rw [e, show P_str5.data.toList = [32] from rfl, hjoin, grdT (by simp; omega)]; rfl
 rw [hsaid, Option.bind_some]
 unfold play_Run.j4
 rw [show cat (tx (hexB m ++ 32 :: (hexB W ++ [32, 45]))) r_str14 = tx ((hexB m ++ 32 :: (hexB W ++ [32, 45])) ++ [10]) from rfl, cat_tx, grdT (by rw [tx_size, show r_str14.size = 1 from rfl]; simp; omega), grdT (by rw [tx_size, tx_size]; simp; omega), wrap1 (by omega)]
 simp
end
theorem nl_app {a l : List UInt8} (ha : ∀ b ∈ a, (b == 10) = false) (hl : ∀ b ∈ l, (b == 10) = false) : ∀ b ∈ a ++ 32 :: l, (b == 10) = false := by
 intro b hb
 rcases List.mem_append.1 hb with h | h
 · exact ha b h
 · rcases List.mem_cons.1 h with rfl | h
   · rfl
   · exact hl b h
theorem run_ok {N K B k : Nat} {m W : List GF} (hc : Cd N K B) (hm : m.length = K) (hW : Wd N K B m W) (hk : 80000 < k) :
   play_Run.f k (tx (codeL N K B ++ 10 :: (pickL ++ 10 :: (encL m ++ 10 :: (decL W ++ 10 :: []))))) = some (tx ([111, 107, 10, 111, 107, 10] ++ (hexB W ++ 10 :: (hexB m ++ 32 :: (hexB W ++ [32, 45, 10]))))) := by
 obtain ⟨q1, q2, q3, q4⟩ := id hc
 obtain ⟨f1, _, _, _, f5⟩ := num_fact (n := N) (by omega)
 obtain ⟨g1, _, _, _, g5⟩ := num_fact (n := K) (by omega)
 obtain ⟨h1, _, _, _, h5⟩ := num_fact (n := B) (by omega)
 have hlen := hexB_length m
 have hlen2 := hexB_length W
 have hWl := hW.len
 have c1 : ∀ b ∈ codeL N K B, (b == 10) = false := nl_app (by decide) (nl_app (cln_10 f5) (nl_app (cln_10 g5) (cln_10 h5)))
 have c3 : ∀ b ∈ encL m, (b == 10) = false := nl_app (by decide) (cln_10 (cln_hexB m))
 have c4 : ∀ b ∈ decL W, (b == 10) = false := nl_app (by decide) (cln_10 (cln_hexB W))
 have hs : (spl 10 (codeL N K B ++ 10 :: (pickL ++ 10 :: (encL m ++ 10 :: (decL W ++ 10 :: []))))).map tx = [tx (codeL N K B), tx pickL, tx (encL m), tx (decL W), tx []] := by
   rw [spl_more 10 _ _ c1, spl_more 10 _ _ (by decide), spl_more 10 _ _ c3, spl_more 10 _ _ c4]; rfl
 unfold play_Run.f
 rw [split_nl (by simp [codeL, pickL, encL, decL]; omega), Option.bind_some, hs]
 rw [show IntKind.i64.wrap ((([tx (codeL N K B), tx pickL, tx (encL m), tx (decL W), tx []] : List ByteArray).length : Int) - 1) = 4 from rfl, grdT (by simp), bifT (by rfl), grdT (by simp)]
 unfold play_Run.j0
 rw [show (([tx (codeL N K B), tx pickL, tx (encL m), tx (decL W), tx []] : List ByteArray).take (4 : Int).toNat ++ ([tx (codeL N K B), tx pickL, tx (encL m), tx (decL W), tx []] : List ByteArray).drop ((([tx (codeL N K B), tx pickL, tx (encL m), tx (decL W), tx []] : List ByteArray).length : Int)).toNat) = [tx (codeL N K B), tx pickL, tx (encL m), tx (decL W)] from rfl]
 obtain ⟨k, rfl⟩ : ∃ m, k = m + 5 := ⟨k - 5, by omega⟩
 have r1 := run_code (k := k + 4) (i := 0) (lines := [tx (codeL N K B), tx pickL, tx (encL m), tx (decL W)]) (n := List.replicate 16 0) (out := []) (c1 := 7) (c2 := 3) (c3 := 0) (d := 0) (b := 0) rfl (by simp) (by omega) hc (by simp) (by omega)
 have r2 := run_pick (k := k + 3) (i := 1) (lines := [tx (codeL N K B), tx pickL, tx (encL m), tx (decL W)]) (n := List.replicate 16 0) (out := [] ++ [111, 107, 10]) (c1 := N) (c2 := K) (c3 := B) (d := 0) (b := 0) rfl (by simp) (by omega) (by simp) (by omega)
 obtain ⟨V, v1, r3⟩ := run_encode (k := k + 2) (i := 2) (lines := [tx (codeL N K B), tx pickL, tx (encL m), tx (decL W)]) (n := List.replicate 16 0) (out := [] ++ [111, 107, 10] ++ [111, 107, 10]) rfl (by simp) (by omega) hc hm (by simp) (by omega)
 obtain rfl := wd_unique hc v1 hW
 obtain ⟨n', r4⟩ := run_decode (k := k + 1) (i := 3) (lines := [tx (codeL N K B), tx pickL, tx (encL m), tx (decL V)]) (n := List.replicate 16 0) (out := [] ++ [111, 107, 10] ++ [111, 107, 10] ++ (hexB V ++ [10])) rfl (by simp) (by omega) hc hm hW (by simp; omega) (by omega)
 refine (r1.trans (r2.trans (r3.trans (r4.trans ?_))))
 rw [play_Run.l0, bifF (by simp)]
 simp
theorem byts_wf {l : List Int} (h : ∀ a ∈ l, (Lit.int .u8 a).wf = true) : byts l = true := by
 rw [byts, List.all_eq_true]
 intro a ha
 have := h a ha
 simp [Lit.wf, IntKind.min, IntKind.max, IntKind.signed, IntKind.bits] at this
 exact byt_spec.2 ⟨by omega, by omega⟩
theorem known_ok : law24_known.f 100000 = some true := by kernel_rfl
theorem PlayEncodes_pure {a0 a1 a2 : Int} {l : List Int} (b0 : 0 ≤ a0 ∧ a0 ≤ 255) (b1 : 0 ≤ a1 ∧ a1 ≤ 255) (b2 : 0 ≤ a2 ∧ a2 ≤ 255) (hl : byts l = true) : law24_PlayEncodes.f 100000 a0 a1 a2 l = some true := by
 obtain ⟨N, K, B, hc, hN, e1⟩ := wcode_ok b0 b1 b2
 obtain ⟨q1, q2, q3, q4⟩ := id hc
 obtain ⟨p, rfl⟩ := byts_bi hl
 obtain ⟨m, hm, e2⟩ := msg_ok (N := N) (K := K) (B := B) (by omega) p
 obtain ⟨W, hW, e3⟩ := rencode_ok (k := 100000) hc hm (by omega)
 have hWl := hW.len
 have hlen := hexB_length m
 have hlen2 := hexB_length W
 obtain ⟨f1, _⟩ := num_fact (n := N) (by omega)
 obtain ⟨g1, _⟩ := num_fact (n := K) (by omega)
 obtain ⟨h1, _⟩ := num_fact (n := B) (by omega)
 have hcl : (codeL N K B ++ [10]).length ≤ 30 := by simp [codeL]; omega
 unfold law24_PlayEncodes.f
 rw [e1, Option.bind_some]
 simp only
 rw [e2, Option.bind_some, e3, Option.bind_some]
 simp only
 rw [rhex_ok (by omega) (by omega), Option.bind_some, known_ok, Option.bind_some, cond_true, line_ok (by omega) (by omega) (by omega), Option.bind_some]
 rw [rhex_ok (by omega) (by omega), hexT_eq, hexT_eq]
 rw [show l_str8 = tx [112, 105, 99, 107, 32, 49, 32, 49, 10, 101, 110, 99, 111, 100, 101, 32] from rfl, show l_str9 = tx [10, 100, 101, 99, 111, 100, 101, 32] from rfl, show l_str10 = tx [10] from rfl, show l_str11 = tx [111, 107, 10, 111, 107, 10] from rfl, show l_str12 = tx [32] from rfl, show l_str13 = tx [32, 45, 10] from rfl]
 simp only [Option.bind_some]
 repeat rw [cat_tx]
 have htext : ((((codeL N K B ++ [10]) ++ [112, 105, 99, 107, 32, 49, 32, 49, 10, 101, 110, 99, 111, 100, 101, 32]) ++ hexB m) ++ [10, 100, 101, 99, 111, 100, 101, 32]) ++ hexB W ++ [10] = codeL N K B ++ 10 :: (pickL ++ 10 :: (encL m ++ 10 :: (decL W ++ 10 :: []))) := by
   simp [pickL, encL, decL]
 rw [htext, run_ok hc hm hW (by omega), Option.bind_some]
 rw [grdT (by simp only [tx_size, List.length_append, List.length_cons, List.length_nil] at hcl ⊢; omega), grdT (by simp only [tx_size, List.length_append, List.length_cons, List.length_nil] at hcl ⊢; omega), grdT (by simp only [tx_size, List.length_append, List.length_cons, List.length_nil] at hcl ⊢; omega), grdT (by simp only [tx_size, List.length_append, List.length_cons, List.length_nil] at hcl ⊢; omega), grdT (by simp only [tx_size, List.length_append, List.length_cons, List.length_nil] at hcl ⊢; omega), grdT (by simp only [tx_size, List.length_append, List.length_cons, List.length_nil] at hcl ⊢; omega), grdT (by simp only [tx_size, List.length_append, List.length_cons, List.length_nil] at hcl ⊢; omega), grdT (by simp only [tx_size, List.length_append, List.length_cons, List.length_nil] at hcl ⊢; omega), grdT (by simp only [tx_size, List.length_append, List.length_cons, List.length_nil] at hcl ⊢; omega), grdT (by simp only [tx_size, List.length_append, List.length_cons, List.length_nil] at hcl ⊢; omega), grdT (by simp only [tx_size, List.length_append, List.length_cons, List.length_nil] at hcl ⊢; omega)]
 congr 1
 rw [decide_eq_true_iff, tx_inj]
 simp
end Go.Proofs.YtkndgkbgbmhjoaaGreatDoor.Gw
