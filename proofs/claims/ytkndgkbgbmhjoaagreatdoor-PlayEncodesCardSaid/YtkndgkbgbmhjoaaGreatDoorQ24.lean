/- The card of the law that what a desk encodes is read back from what it tells: a part of its proof. The conditions are those of the statement. -/
import Derived.Test.YtkndgkbgbmhjoaaGreatDoorQ20
import Derived.Test.YtkndgkbgbmhjoaaGreatDoorQ23
namespace Go.Proofs.YtkndgkbgbmhjoaaGreatDoor.Gw
open Go GF
set_option linter.unusedSimpArgs false
set_option linter.unusedVariables false
theorem add_k {k m : Nat} (h : m < k) : ∃ k', k = k' + m := ⟨k - m, by omega⟩
theorem erasures_ok {N K B k : Nat} (hc : Cd N K B) (hk : 10 < k) : synd_Erasures.f k ((N : Int), (K : Int), (B : Int)) [] = some 0 := by
 obtain ⟨k, rfl⟩ := add_k hk
 unfold synd_Erasures.f
 simp only
 rw [right_ok hc]; rfl
theorem locator_nil {k : Nat} (hk : 10 < k) : synd_Locator.f k [] = some [1] := by
 obtain ⟨k, rfl⟩ := add_k hk
 rfl
theorem pv_one (x : GF) : pv [1] x = 1 := by simp only [pv, GF.mul_zero, GF.add_zero]
theorem nrm_zeros : ∀ n, nrm (List.replicate n 0) = []
 | 0 => rfl
 | n + 1 => by rw [List.replicate_succ', nrm_snoc, if_pos rfl, nrm_zeros n]
theorem mul_z1 {s k : Nat} (hs : s ≤ 254) (hk : 2000 < k) : poly_Mul.f k (bi (List.replicate s 0)) (bi [1]) = some [] := by
 obtain ⟨L, h1, h2, h3⟩ := mul_ok (p := List.replicate s 0) (q := [1]) (k := k) (by simp) (by simp; omega) (by simp; omega)
 rw [h3]
 have e : L = List.replicate (s + 1) 0 := pv_all (by rw [h1]; simp) (by rw [h1]; simp; omega) fun x => by rw [h2, pv_zeros, pv_zeros, GF.zero_mul]
 rw [e, nrm_zeros]; rfl
theorem mul_11 {k : Nat} (hk : 2000 < k) : poly_Mul.f k [1] [1] = some [1] := by
 obtain ⟨L, h1, h2, h3⟩ := mul_ok (p := [1]) (q := [1]) (k := k) (by simp) (by simp) (by simp; omega)
 rw [show ([1] : List Int) = bi [1] from rfl, h3]
 have e : L = [1] ++ [0] := pv_all (by rw [h1]; rfl) (by rw [h1]; simp) fun x => by
   rw [h2, pv_one, pv_append, pv_one]
   simp only [pv, GF.mul_zero, GF.add_zero, GF.mul_one]
 rw [e, nrm_snoc, if_pos rfl]
 rfl
theorem modified_ok {s k : Nat} (hs : s ≤ 254) (hk : 2000 < k) : synd_Modified.f k (bi (List.replicate s 0)) [1] = some (bi (List.replicate s 0)) := by
 unfold synd_Modified.f
 rw [bi_length, List.length_replicate, grdT (by omega), show ([1] : List Int) = bi [1] from rfl, mul_z1 hs hk, Option.bind_some, Int.toNat_natCast, bi_zeros]
 simp [cpy]
theorem massey_l0 (n : Nat) (hn : n < 1000) : ∀ (d i k : Nat) (c : Int), i + d = n → 10 + d < k → massey_Massey.l0 k (bi (List.replicate n 0)) c (i : Int) = some ([1], 0)
 | d, i, 0, _, _, h => by omega
 | 0, i, k + 1, c, hd, hk => by
   rw [massey_Massey.l0, bifF (by rw [bi_length, List.length_replicate]; omega)]
 | d + 1, i, k + 1, c, hd, hk => by
   have e : (List.replicate n (0 : GF)).getD i 0 = 0 := by
     simp only [List.getD_eq_getElem?_getD, List.getElem?_replicate]; split <;> rfl
   have hs : massey_sum.f k [1] 0 (bi (List.replicate n 0)) (i : Int) = some 0 := by
     obtain ⟨k', rfl⟩ : ∃ m, k = m + 1 := ⟨k - 1, by omega⟩
     unfold massey_sum.f
     rw [massey_sum.l0, bifF (by omega)]
   rw [massey_Massey.l0, bifT (by rw [bi_length, List.length_replicate]; omega), grdT (by rw [bi_length, List.length_replicate]; omega), hs, Option.bind_some, bi_at, e, bifT (by decide), wrap1 (by omega)]
   exact massey_l0 n hn d (i + 1) k _ (by omega) (by omega)
theorem massey_ok {n k : Nat} (hn : n < 1000) (hk : 2000 < k) : massey_Massey.f k (bi (List.replicate n 0)) = some ([1], 0) := massey_l0 n hn n 0 k 1 (by omega) (by omega)
theorem places_l1 {N K B : Nat} (hN : N ≤ 255) : ∀ (d i k : Nat), i + d = N → 10 + 5 * d < k → chien_Places.l1 k ((N : Int), (K : Int), (B : Int)) [1] [1] [] (i : Int) = some []
 | d, i, 0, _, h => by omega
 | 0, i, k + 1, hd, hk => by rw [chien_Places.l1, bifF (by simp only; omega)]
 | d + 1, i, k + 1, hd, hk => by
   obtain ⟨k', rfl⟩ : ∃ m, k = m + 2 := ⟨k - 2, by omega⟩
   rw [chien_Places.l1, bifT (by simp only; omega), chien_Places.l2, bifT (by simp), grdT (by simp)]
   rw [show IntKind.i64.wrap ((0 : Int) + 1) = 1 by decide, chien_Places.l2, bifF (by simp)]
   unfold chien_Places.j1
   rw [show bits .xor .u8 0 (at_ 0 [1] 0) = 1 by decide, bifF (by decide)]
   unfold chien_Places.j2
   rw [show field_Field_Pairs.f [1] [1] = some [1] by decide, Option.bind_some, wrap1 (by omega)]
   exact places_l1 hN d (i + 1) k' (by omega) (by omega)
theorem places_ok {N K B k : Nat} (hc : Cd N K B) (hk : 3000 < k) : chien_Places.f k ((N : Int), (K : Int), (B : Int)) [1] = some [] := by
 obtain ⟨c1, c2, c3, c4⟩ := id hc
 obtain ⟨k, rfl⟩ : ∃ m, k = m + 2 := ⟨k - 2, by omega⟩
 unfold chien_Places.f
 simp only
 rw [right_ok hc, Option.bind_some, bifNF rfl, show slices_Clone.f [1] = some [1] by rfl, Option.bind_some, grdT (by simp)]
 rw [chien_Places.l0, bifT (by simp), show IntKind.i64.wrap (-(0 : Int)) = ((0 : Nat) : Int) by decide, point_ok (by decide), Option.bind_some, grdT (by simp), show IntKind.i64.wrap ((0 : Int) + 1) = 1 by decide, chien_Places.l0, bifF (by simp)]
 exact places_l1 c3 N 0 k (by omega) (by omega)
theorem values_ok {N K B k : Nat} (hc : Cd N K B) (hk : 100 < k) : chien_Values.f k ((N : Int), (K : Int), (B : Int)) [] [1] [] = some ([], true) := by
 obtain ⟨k, rfl⟩ := add_k hk
 unfold chien_Values.f
 simp only
 rw [right_ok hc]; rfl
theorem mend_ok {k : Nat} {W : List GF} (hw : W.length < 1000) (hk : 100 < k) : chien_Mend.f k (bi W) [] [] = some (bi W) := by
 obtain ⟨k, rfl⟩ := add_k hk
 unfold chien_Mend.f slices_Clone.f
 rw [grdT (by rw [bi_length]; omega)]; rfl
theorem wrong_l0 (W : List GF) (hw : W.length < 1000) (e : List Int) : ∀ (d i k : Nat), i + d = W.length → d < k → check_Wrong.l0 k (bi W) (bi W) e 0 (i : Int) = some 0
 | d, i, 0, _, h => by omega
 | d, i, k + 1, hd, hk => by
   have hm : (min2 ((bi W).length : Int) ((bi W).length : Int)).toNat = W.length := by unfold min2; simp
   have hz : ((bi W).take (min2 ((bi W).length : Int) ((bi W).length : Int)).toNat).drop 0 = bi W := by
     rw [hm, List.drop_zero, List.take_of_length_le (by rw [bi_length]; omega)]
   rw [check_Wrong.l0, hz]
   cases d with
   | zero => rw [bifF (by rw [bi_length]; omega)]
   | succ d =>
     rw [bifT (by rw [bi_length]; omega), grdT (by rw [bi_length]; omega), grdT (by rw [bi_length]; omega), bifNF rfl, wrap1 (by omega)]
     exact wrong_l0 W hw e d (i + 1) k (by omega) (by omega)
theorem apart_l0 (W : List GF) (hw : W.length < 1000) : ∀ (d i k : Nat), i + d = W.length → d < k → check_Apart.l0 k (bi W) (bi W) [] (i : Int) = some []
 | d, i, 0, _, h => by omega
 | d, i, k + 1, hd, hk => by
   have hm : (min2 ((bi W).length : Int) ((bi W).length : Int)).toNat = W.length := by unfold min2; simp
   have hz : ((bi W).take (min2 ((bi W).length : Int) ((bi W).length : Int)).toNat).drop 0 = bi W := by
     rw [hm, List.drop_zero, List.take_of_length_le (by rw [bi_length]; omega)]
   rw [check_Apart.l0, hz]
   cases d with
   | zero => rw [bifF (by rw [bi_length]; omega)]
   | succ d =>
     rw [bifT (by rw [bi_length]; omega), grdT (by rw [bi_length]; omega), grdT (by rw [bi_length]; omega), bifNF rfl, wrap1 (by omega)]
     exact apart_l0 W hw d (i + 1) k (by omega) (by omega)
theorem min2_self (a : Int) : min2 a a = a := by unfold min2; split <;> rfl
theorem accept_ok {N K B k : Nat} {m W : List GF} (hc : Cd N K B) (h : Wd N K B m W) (hk : 3000 < k) : check_Accept.f k ((N : Int), (K : Int), (B : Int)) (bi W) [] (bi W) = some true := by
 obtain ⟨c1, c2, c3, c4⟩ := id hc
 have hw : check_Wrong.l0 k (bi W) (bi W) [] 0 0 = some 0 := wrong_l0 W (by rw [h.len]; omega) [] W.length 0 k (by omega) (by rw [h.len]; omega)
 unfold check_Accept.f
 simp only
 rw [bifNF (by rw [bi_length, h.len]), erasures_ok hc (by omega), Option.bind_some, bifNF rfl, has_ok hc h hk, Option.bind_some]
 unfold check_Wrong.f
 rw [min2_self, grdT (by rw [bi_length]; omega), hw, Option.bind_some]
 unfold check_Fits.f
 simp only
 rw [space_ok hc, Option.bind_some, bifF (by omega), bifF (by simp), bifF (by simp), bifF (by simp), bifF (by simp), Option.bind_some, decide_eq_true (show IntKind.i64.wrap (IntKind.i64.wrap (2 * 0) + (([] : List Int).length : Int)) ≤ ((N - K : Nat) : Int) from by rw [show IntKind.i64.wrap (IntKind.i64.wrap (2 * 0) + (([] : List Int).length : Int)) = 0 by decide]; omega)]
 rfl
theorem by1_ok {N K B k : Nat} {m W : List GF} (hc : Cd N K B) (h : Wd N K B m W) (hk : 4000 < k) : three_By.f k 1 ((N : Int), (K : Int), (B : Int)) (bi W) [] = some (bi W, true) := by
 obtain ⟨c1, c2, c3, c4⟩ := id hc
 have hmay : three_job_may.f k (((N : Int), (K : Int), (B : Int)), bi W, []) = some true := by
   unfold three_job_may.f
   simp only
   rw [erasures_ok hc (by omega), Option.bind_some, bifT rfl, bifT (by rw [bi_length, h.len]), space_ok hc]
   simp
 have hlack : three_job_lacking.f k (((N : Int), (K : Int), (B : Int)), bi W, []) = some (bi (List.replicate (N - K) 0), [1], bi (List.replicate (N - K) 0)) := by
   unfold three_job_lacking.f
   simp only
   rw [synd_ok hc h (by omega), Option.bind_some, locator_nil (by omega), Option.bind_some, modified_ok (by omega) (by omega)]; rfl
 have hz : ((bi (List.replicate (N - K) 0)).take (bi (List.replicate (N - K) 0)).length).drop ((([] : List Int).length : Int).toNat) = bi (List.replicate (N - K) 0) := by
   rw [List.take_length]; rfl
 have hev : chien_Evaluator.f k (bi (List.replicate (N - K) 0)) [1] = some [] := by
   unfold chien_Evaluator.f
   rw [show ([1] : List Int) = bi [1] from rfl, mul_z1 (by omega) (by omega), Option.bind_some]
   unfold poly_Cut.f
   have e : max2 0 (min2 ((bi (List.replicate (N - K) 0)).length : Int) (([] : List Int).length : Int)) = 0 := by
     rw [bi_length]; unfold max2 min2; simp
   rw [e, grdT (by simp), show ((([] : List Int).take (0 : Int).toNat).drop 0) = bi [] from rfl, norm_ok (by simp; omega) (by simp)]; rfl
 have hm : three_job_mended.f k (((N : Int), (K : Int), (B : Int)), bi W, []) [] [1] = some (bi W, true) := by
   unfold three_job_mended.f
   simp only
   rw [places_ok hc (by omega), Option.bind_some, values_ok hc (by omega), Option.bind_some, mend_ok (by rw [h.len]; omega) (by omega), Option.bind_some]
   simp only [Bool.not_true, cond_false]
   rw [accept_ok hc h (by omega)]; rfl
 have hdo : three_byRegister_do.f k (((N : Int), (K : Int), (B : Int)), bi W, []) = some (bi W, true) := by
   unfold three_byRegister_do.f
   simp only
   rw [hlack, Option.bind_some]
   simp only
   rw [grdT (by simp), hz, massey_ok (by omega) (by omega), Option.bind_some, mul_11 (by omega), Option.bind_some, hev, Option.bind_some, hm]; rfl
 unfold three_By.f
 rw [bifT rfl]
 simp only
 rw [hmay, Option.bind_some]
 simp only [Bool.not_true, cond_false]
 rw [hdo]; rfl
theorem message_ok {N K B : Nat} {m W : List GF} (hc : Cd N K B) (h : Wd N K B m W) : encode_Message.f ((N : Int), (K : Int), (B : Int)) (bi W) = some (bi m, 0) := by
 obtain ⟨c1, c2, c3, c4⟩ := id hc
 unfold encode_Message.f
 simp only
 rw [right_ok hc, Option.bind_some, bifNF rfl, bifNF (by rw [bi_length, h.len])]
 unfold encode_Message.j0
 rw [bifNF rfl]
 simp only
 rw [space_ok hc, Option.bind_some, grdT (by rw [bi_length, h.len]; omega), List.take_length, Int.toNat_natCast, bi_drop, h.msg]
 unfold slices_Clone.f
 have : m.length ≤ 255 := by rw [← h.msg, List.length_drop, h.len]; omega
 rw [grdT (by rw [bi_length]; omega)]; rfl
theorem answer_ok {N K B k : Nat} {m W : List GF} (hc : Cd N K B) (h : Wd N K B m W) (hk : 3000 < k) : check_Answer.f k ((N : Int), (K : Int), (B : Int)) (bi W) (bi W) = some ((bi W, bi m, []), 0) := by
 obtain ⟨c1, c2, c3, c4⟩ := id hc
 have ha : check_Apart.l0 k (bi W) (bi W) [] 0 = some [] := apart_l0 W (by rw [h.len]; omega) W.length 0 k (by omega) (by rw [h.len]; omega)
 unfold check_Answer.f
 simp only
 rw [message_ok hc h, Option.bind_some, bifT rfl, bifNF (by rw [bi_length, h.len])]
 unfold check_Answer.j0
 rw [bifNF rfl]
 unfold slices_Clone.f check_Apart.f
 rw [grdT (by rw [bi_length, h.len]; omega), Option.bind_some, min2_self, grdT (by rw [bi_length]; omega), ha]; rfl
theorem cright_ok {N K B : Nat} (hc : Cd N K B) : codec_right.f ((N : Int), (K : Int), (B : Int)) (1, 1) = some 0 := by
 unfold codec_right.f
 simp only
 rw [right_ok hc]; rfl
theorem choose_ok {N K B : Nat} {e : Int} (hc : Cd N K B) : pick_Choose.f ((N : Int), (K : Int), (B : Int)) e (1, 1) = some ((1, 1), 0) := by
 unfold pick_Choose.f
 simp only
 rw [right_ok hc]; rfl
theorem dencode_ok {N K B k : Nat} {m : List GF} {n : List Int} (h : Cd N K B) (hm : m.length = K) (hk : 70000 < k) : ∃ W, Wd N K B m W ∧ codec_Desk_Encode.f k n ((N : Int), (K : Int), (B : Int)) (1, 1) (bi m) = some ((bi W, 0), n) := by
 obtain ⟨W, h1, h2⟩ := encode_ok h hm hk
 refine ⟨W, h1, ?_⟩
 unfold codec_Desk_Encode.f
 simp only
 rw [cright_ok h, Option.bind_some, bifNF rfl, bifNF (by rw [bi_length, hm]), choose_ok h, Option.bind_some]
 simp only
 rw [grdT (by decide), grdT (by decide), h2]; rfl
theorem ddecode_ok {N K B k : Nat} {m W : List GF} {n : List Int} (hc : Cd N K B) (h : Wd N K B m W) (hk : 4000 < k) : ∃ n', codec_Desk_Decode.f k n ((N : Int), (K : Int), (B : Int)) (1, 1) (bi W) [] = some (((bi W, bi m, []), 0), n') := by
 refine ⟨n.set (cix 1 1).toNat (IntKind.i64.wrap (at_ 0 n (cix 1 1) + 1)), ?_⟩
 unfold codec_Desk_Decode.f
 simp only
 rw [cright_ok hc, Option.bind_some, bifNF rfl, bifNF (by rw [bi_length, h.len]), erasures_ok hc (by omega), Option.bind_some, bifNF rfl, choose_ok hc, Option.bind_some]
 simp only
 rw [grdT (by decide), grdT (by decide), grdT (by decide), grdT (by decide), by1_ok hc h hk, Option.bind_some]
 simp only [Bool.not_true, cond_false]
 rw [answer_ok hc h (by omega)]; rfl
end Go.Proofs.YtkndgkbgbmhjoaaGreatDoor.Gw
