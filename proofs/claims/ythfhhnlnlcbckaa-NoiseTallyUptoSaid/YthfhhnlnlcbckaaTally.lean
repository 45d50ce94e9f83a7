/- The plain law of the statement NoiseTally. -/
import Derived.Test.YthfhhnlnlcbckaaRefTot
namespace Go.Proofs.Ythfhhnlnlcbckaa.Gw
open Go Go.RowKit
set_option linter.unusedSimpArgs false
set_option linter.unusedVariables false
set_option linter.unusedSectionVars false
/-! ### Codes -/
theorem Code_cases {n k b : Int} (n0 : 0 ≤ n) (n1 : n ≤ 255) (k0 : 0 ≤ k) (k1 : k ≤ 255) (b0 : 0 ≤ b) (b1 : b ≤ 255) : ∃ N K B, law10_Code.f n k b = some (N, K, B) ∧ 1 ≤ K ∧ K < N ∧ 2 ≤ N ∧ N ≤ 69 ∧ 0 ≤ B ∧ B < 255 := by
  have key : ∀ x : Int, 2 ≤ x → x ≤ 69 → ∃ N K B, law10_Code.j0 k b x = some (N, K, B) ∧ 1 ≤ K ∧ K < N ∧ 2 ≤ N ∧ N ≤ 69 ∧ 0 ≤ B ∧ B < 255 := by
    intro x h2 h69
    unfold law10_Code.j0
    rw [i64_id (x := x - 1) (by omega) (by omega), i64_id (x := k) (by omega) (by omega), i64_id (x := b) (by omega) (by omega), Int.tmod_eq_emod_of_nonneg k0, Int.tmod_eq_emod_of_nonneg b0]
    have e0 := Int.emod_nonneg k (b := x - 1) (by omega)
    have e1 := Int.emod_lt_of_pos k (b := x - 1) (by omega)
    rw [i64_id (x := 1 + k % (x - 1)) (by omega) (by omega)]
    refine ⟨x, 1 + k % (x - 1), b % 255, ?_, by omega, by omega, h2, h69, by omega, by omega⟩
    rw [grdT (by omega)]
  unfold law10_Code.f
  rw [Int.tmod_eq_emod_of_nonneg n0, Int.tmod_eq_emod_of_nonneg k0, Int.tmod_eq_emod_of_nonneg n0, i64_id (x := k % 40) (by omega) (by omega), i64_id (x := 30 + k % 40) (by omega) (by omega), i64_id (x := n % 21) (by omega) (by omega), i64_id (x := 2 + n % 21) (by omega) (by omega)]
  cases hd : decide (n % 32 = 31)
  · exact key _ (by omega) (by omega)
  · exact key _ (by omega) (by omega)
theorem Small_cases {n k b : Int} (n0 : 0 ≤ n) (n1 : n ≤ 255) (k0 : 0 ≤ k) (k1 : k ≤ 255) (b0 : 0 ≤ b) (b1 : b ≤ 255) : ∃ N K B : Nat, law18_Small.f n k b = some ((N : Int), (K : Int), (B : Int)) ∧ 1 ≤ K ∧ K < N ∧ N ≤ 69 ∧ B < 255 := by
  obtain ⟨N, K, B, h, h1, h2, h3, h4, h5, h6⟩ := Code_cases (n := n.tmod 31) (by rw [Int.tmod_eq_emod_of_nonneg n0]; omega) (by rw [Int.tmod_eq_emod_of_nonneg n0]; omega) k0 k1 b0 b1
  refine ⟨N.toNat, K.toNat, B.toNat, ?_, by omega, by omega, by omega, by omega⟩
  unfold law18_Small.f
  rw [h, Int.toNat_of_nonneg (by omega), Int.toNat_of_nonneg (by omega), Int.toNat_of_nonneg (by omega)]; rfl
theorem Right_ok {N K B : Int} (h1 : 1 ≤ K) (h2 : K < N) (h3 : N ≤ 255) (h4 : 0 ≤ B) (h5 : B < 255) : code_Right.f (N, K, B) = some 0 := by
  unfold code_Right.f
  rw [bifF (by simp only; omega), bifF (by simp only; omega), bifF (by simp only; omega), bifF (by simp only; omega), bifF (by simp only; omega)]
theorem RRight_ok {N K B : Int} (h1 : 1 ≤ K) (h2 : K < N) (h3 : N ≤ 255) (h4 : 0 ≤ B) (h5 : B < 255) : ref10_Right.f (N, K, B) = some 0 := by
  unfold ref10_Right.f
  rw [bifF (by simp only; omega), bifF (by simp only; omega), bifF (by simp only; omega), bifF (by simp only; omega), bifF (by simp only; omega)]
section
variable {N K B : Nat} (hK : 1 ≤ K) (hN : K < N) (h69 : N ≤ 69) (hB : B < 255)
include hK hN h69 hB
theorem RR : ref10_Right.f ((N : Int), (K : Int), (B : Int)) = some 0 := RRight_ok (by omega) (by omega) (by omega) (by omega) (by omega)
theorem RSpace_eq : ref10_Space.f ((N : Int), (K : Int), (B : Int)) = some ((N - K : Nat) : Int) := by
  unfold ref10_Space.f
  rw [RR hK hN h69 hB, Option.bind_some, bifNF rfl, i64_id (x := (N : Int) - (K : Int)) (by omega) (by omega)]
  congr 1; omega
theorem Roots_tot : ∀ (m k n : Nat) (l : List Int), n + m = N - K → m + 500 < k → l.length = n → ExP (ref10_Roots.l0 k ((N : Int), (K : Int), (B : Int)) l (n : Int)) (fun r => r.length = N - K) := by
  intro m
  induction m with
  | zero =>
    intro k n l h1 h2 h3; obtain ⟨k, rfl, h2⟩ := dec_k h2
    rw [ref10_Roots.l0, RSpace_eq hK hN h69 hB, Option.bind_some, bifF (by omega)]; exact ex_some (by omega)
  | succ m ih =>
    intro k n l h1 h2 h3; obtain ⟨k, rfl, h2⟩ := dec_k h2
    rw [ref10_Roots.l0, RSpace_eq hK hN h69 hB, Option.bind_some, bifT (by omega), wrap1 (by omega)]
    unfold ref10_Point.f
    exact ex_bind (ex_bind (Pow_tot _ _ (by omega)) fun y _ => ex_some trivial) fun y (_ : True) => ex_grd (by simp; omega) (ih _ _ _ (by omega) (by omega) (by simp; omega))
theorem From_tot {a : List Int} (ha : a.length ≤ 100) : ∀ (m k n : Nat) (l : List Int), n + m = a.length → m + 2000 < k → l.length ≤ 1 + 2 * n → ExP (ref07_From.l0 k a l (n : Int)) (fun r => r.length ≤ 1 + 2 * a.length) := by
  intro m
  induction m with
  | zero =>
    intro k n l h1 h2 h3; obtain ⟨k, rfl, h2⟩ := dec_k h2
    rw [ref07_From.l0, bifF (by omega)]; exact ex_some (by omega)
  | succ m ih =>
    intro k n l h1 h2 h3; obtain ⟨k, rfl, h2⟩ := dec_k h2
    rw [ref07_From.l0, bifT (by omega), wrap1 (by omega)]
    exact ex_grd (by omega) (ex_bind (MulpF_tot (by omega) (by simp) (by simp; omega)) fun y hy => ih _ _ _ (by omega) (by omega) (by simp at hy; omega))
theorem Gen_tot {k : Nat} (hk : 9000 < k) : ExP (ref10_Generator.f k ((N : Int), (K : Int), (B : Int))) (fun r => r.length ≤ 200) := by
  unfold ref10_Generator.f ref10_Roots.f ref07_From.f
  rw [RR hK hN h69 hB, Option.bind_some, bifNF rfl]
  exact ex_bind (Roots_tot hK hN h69 hB (N - K) k 0 [] (by omega) (by omega) rfl) fun r hr => ex_bind (From_tot hK hN h69 hB (a := r) (by omega) r.length k 0 [1] (by omega) (by omega) (by simp)) fun y hy => ex_some (by omega)
theorem Enc11_tot {k : Nat} {m : List Int} (hm : m.length = K) (hk : 10000 < k) : ExP (ref11_Encode.f k ((N : Int), (K : Int), (B : Int)) m) (fun r => r.1.length = N) := by
  unfold ref11_Encode.f
  rw [RR hK hN h69 hB, Option.bind_some, bifNF rfl, bifNF (by simp only; omega), RSpace_eq hK hN h69 hB, Option.bind_some]
  have loop : ∀ (x : List Int × Bool) (i k n : Nat) (l : List Int), n + i = N - K → i + 5 < k → l.length = n → ExP (ref11_Encode.l0 k m ((N - K : Nat) : Int) x l (n : Int)) (fun r => r.1.length = N) := by
    intro x i
    induction i with
    | zero =>
      intro k n l h1 h2 h3; obtain ⟨k, rfl, h2⟩ := dec_k h2
      rw [ref11_Encode.l0, bifF (by omega)]; exact ex_grd (by omega) (ex_some (by simp; omega))
    | succ i ih =>
      intro k n l h1 h2 h3; obtain ⟨k, rfl, h2⟩ := dec_k h2
      rw [ref11_Encode.l0, bifT (by omega), wrap1 (by omega)]
      exact ex_bind (Coef_tot _ _) fun y _ => ex_grd (by simp; omega) (ih _ _ _ (by omega) (by omega) (by simp; omega))
  exact ex_bind (Up_tot (by omega) (by omega) (by omega)) fun u hu => ex_bind (Gen_tot hK hN h69 hB (by omega)) fun g hg => ex_bind (Mod_tot (by omega) (by omega) (by omega)) fun x _ => loop x (N - K) k 0 [] (by omega) (by omega) rfl
end
/-! ### Blocks, woven -/
section
variable {N K B d : Nat} (hK : 1 ≤ K) (hN : K < N) (h69 : N ≤ 69) (hB : B < 255) (hd1 : 1 ≤ d) (hd : d ≤ 5)
include hK hN h69 hB hd1 hd
theorem RR21 : ref21_Right.f ((N : Int), (K : Int), (B : Int)) (d : Int) = some true := by
  unfold ref21_Right.f
  rw [RR hK hN h69 hB, Option.bind_some, bifT rfl, bifT (by omega)]
  congr 1; exact decide_eq_true (by omega)
theorem tmod_zero_iff {n : Nat} : (Int.tmod (n : Int) (d : Int) = 0) ↔ d ∣ n := by
  rw [Int.tmod_eq_emod_of_nonneg (by omega)]
  constructor
  · intro h; exact Nat.dvd_of_mod_eq_zero (by omega)
  · intro h; have := Nat.mod_eq_zero_of_dvd h; omega
theorem Blocks_tot {s : List Int} (hs : s.length ≤ 80) {M : Nat} (hM : s.length ≤ M) (hM2 : M ≤ 100) (hMd : d ∣ M) :
    ∀ (m k n : Nat) (l : List (List Int)), n + m = M → m * (K + 3) + 10 < k → l.length = n → (∀ x ∈ l, x.length = K) →
      ExP (ref21_Blocks.l0 k ((N : Int), (K : Int), (B : Int)) (d : Int) s l ((n * K : Nat) : Int)) (fun r => r.1.length ≤ 100 ∧ d ∣ r.1.length ∧ ∀ x ∈ r.1, x.length = K) := by
  intro m
  induction m with
  | zero =>
    intro k n l h1 h2 h3 h4; obtain ⟨k, rfl, h2⟩ := dec_k h2
    have hn : n = M := by omega
    have hnk : n ≤ n * K := Nat.le_mul_of_pos_right n hK
    rw [ref21_Blocks.l0, bifF (by omega)]
    refine ex_grd (by omega) ?_
    rw [h3, bifNF ((tmod_zero_iff hK hN h69 hB hd1 hd).2 (hn ▸ hMd))]
    exact ex_some ⟨by simp only; omega, by simp only; rw [h3, hn]; exact hMd, h4⟩
  | succ m ih =>
    intro k n l h1 h2 h3 h4; obtain ⟨k, rfl, h2⟩ := dec_k h2
    have hmul : (m + 1) * (K + 3) = m * (K + 3) + (K + 3) := by rw [Nat.add_mul, Nat.one_mul]
    have hnK : (n + 1) * K = n * K + K := by rw [Nat.add_mul, Nat.one_mul]
    have hb1 : n * K ≤ 100 * 69 := Nat.mul_le_mul (by omega) (by omega)
    have next : ∀ (k : Nat) (row : List Int), m * (K + 3) + 10 < k → row.length = K → ExP (grd (decide ((l.length + 1) * 24 ≤ 140737488355328)) (ref21_Blocks.l0 k ((N : Int), (K : Int), (B : Int)) (d : Int) s (l ++ [row]) (IntKind.i64.wrap (((n * K : Nat) : Int) + (K : Int))))) (fun r => r.1.length ≤ 100 ∧ d ∣ r.1.length ∧ ∀ x ∈ r.1, x.length = K) := by
      intro k row h5 h6
      have e : IntKind.i64.wrap (((n * K : Nat) : Int) + (K : Int)) = (((n + 1) * K : Nat) : Int) := by rw [i64_id (by omega) (by omega)]; omega
      rw [e]
      refine ex_grd (by omega) (ih k (n + 1) _ (by omega) h5 (by simp; omega) (fun x hx => ?_))
      rcases List.mem_append.1 hx with h | h
      · exact h4 x h
      · rw [List.mem_singleton.1 h]; exact h6
    have inner : ∀ (i k j : Nat) (row : List Int), j + i = K → i + m * (K + 3) + 11 < k → row.length = K → ExP (ref21_Blocks.l1 k ((N : Int), (K : Int), (B : Int)) (d : Int) s l ((n * K : Nat) : Int) row (j : Int)) (fun r => r.1.length ≤ 100 ∧ d ∣ r.1.length ∧ ∀ x ∈ r.1, x.length = K) := by
      intro i
      induction i with
      | zero =>
        intro k j row h5 h6 h7; obtain ⟨k, rfl, h6⟩ := dec_k h6
        rw [ref21_Blocks.l1, bifF (by simp only; omega)]
        exact next k row (by omega) h7
      | succ i ih2 =>
        intro k j row h5 h6 h7; obtain ⟨k, rfl, h6⟩ := dec_k h6
        rw [ref21_Blocks.l1, bifT (by simp only; omega), i64_id (x := ((n * K : Nat) : Int) + (j : Int)) (by omega) (by omega), wrap1 (by omega)]
        by_cases hin : ((n * K : Nat) : Int) + (j : Int) < (s.length : Int)
        · rw [bifT hin]
          exact ex_grd (by omega) (ex_grd (by omega) (ih2 _ _ _ (by omega) (by omega) (by simpa using h7)))
        · rw [bifF hin]; exact next k row (by omega) h7
    have go : ExP (ref21_Blocks.j0 (ref21_Blocks.l1 k) k ((N : Int), (K : Int), (B : Int)) (d : Int) s l ((n * K : Nat) : Int)) (fun r => r.1.length ≤ 100 ∧ d ∣ r.1.length ∧ ∀ x ∈ r.1, x.length = K) := by
      rw [ref21_Blocks.j0]
      exact ex_grd (by simp only; omega) (inner K k 0 _ (by omega) (by omega) (by simp))
    rw [ref21_Blocks.l0]
    refine ex_bif go (ex_grd (by omega) ?_)
    by_cases hdv : Int.tmod (l.length : Int) (d : Int) = 0
    · rw [bifNF hdv]
      exact ex_some ⟨by simp only; omega, (tmod_zero_iff hK hN h69 hB hd1 hd).1 hdv, h4⟩
    · rw [bifNT hdv]; exact go
/-- Where a byte comes to lie. -/
theorem RSpot_eq (a : Nat) (ha : a < 1000000) : ref21_Spot.f ((N : Int), (K : Int), (B : Int)) (d : Int) (a : Int) = some (((a / (N * d) * d + a % (N * d) % d : Nat) : Int), ((a % (N * d) / d : Nat) : Int)) := by
  have h1 : N * d ≤ 69 * 5 := Nat.mul_le_mul h69 hd
  have h2 : 1 ≤ N * d := Nat.mul_pos (by omega) hd1
  have e1 : IntKind.i64.wrap ((N : Int) * (d : Int)) = ((N * d : Nat) : Int) := by rw [← Int.natCast_mul, i64_id (by omega) (by omega)]
  have q1 : a / (N * d) ≤ a := Nat.div_le_self _ _
  have q2 : a / (N * d) * d ≤ 1000000 * 5 := Nat.mul_le_mul (by omega) hd
  have q3 : a % (N * d) % d < d := Nat.mod_lt _ hd1
  have q4 : a % (N * d) / d ≤ a % (N * d) := Nat.div_le_self _ _
  have q5 : a % (N * d) < N * d := Nat.mod_lt _ h2
  unfold ref21_Spot.f
  rw [RR21 hK hN h69 hB hd1 hd, Option.bind_some, Bool.not_true, cond_false, bifF (by omega), e1, grdT (by omega), grdT (by omega), grdT (by omega), grdT (by omega)]
  have t1 : ∀ x y : Nat, (x : Int).tdiv (y : Int) = ((x / y : Nat) : Int) := fun x y => by rw [Int.tdiv_eq_ediv_of_nonneg (Int.natCast_nonneg _), Int.natCast_ediv]
  have t2 : ∀ x y : Nat, (x : Int).tmod (y : Int) = ((x % y : Nat) : Int) := fun x y => by rw [Int.tmod_eq_emod_of_nonneg (Int.natCast_nonneg _), Int.natCast_emod]
  rw [t1, t2, t2, t1]
  rw [wrapN (n := a / (N * d)) (by omega), ← Int.natCast_mul, wrapN (n := a / (N * d) * d) (by omega), ← Int.natCast_add, wrapN (n := a / (N * d) * d + a % (N * d) % d) (by omega), wrapN (n := a % (N * d) / d) (by omega)]
theorem Spot_lt {a c : Nat} (ha : a < c * d * N) : a / (N * d) * d + a % (N * d) % d < c * d ∧ a % (N * d) / d < N := by
  have h2 : 1 ≤ N * d := Nat.mul_pos (by omega) hd1
  have e : c * d * N = (N * d) * c := by rw [Nat.mul_assoc, Nat.mul_comm d N, Nat.mul_comm]
  have h3 : a / (N * d) < c := Nat.div_lt_of_lt_mul (e ▸ ha)
  have q3 : a % (N * d) % d < d := Nat.mod_lt _ hd1
  have q5 : a % (N * d) < N * d := Nat.mod_lt _ h2
  constructor
  · have h4 : a / (N * d) + 1 ≤ c := h3
    have h5 : (a / (N * d) + 1) * d ≤ c * d := Nat.mul_le_mul_right d h4
    rw [Nat.add_mul, Nat.one_mul] at h5
    omega
  · exact Nat.div_lt_of_lt_mul (Nat.lt_of_lt_of_eq q5 (Nat.mul_comm N d))
theorem Weave_tot {l : List (List Int)} {c k : Nat} (hl : l.length = c * d) (hc : c * d ≤ 100) (hr : ∀ x ∈ l, x.length = N) (hk : 20000 < k) :
    ExP (ref21_Weave.f k ((N : Int), (K : Int), (B : Int)) (d : Int) l) (fun r => r.1.length = c * d * N) := by
  have hcdN : c * d * N ≤ 100 * 69 := Nat.mul_le_mul hc h69
  have l1 : ∀ (m k n : Nat) (t : List Int), n + m = c * d * N → m + 5 < k → t.length = n → ExP (ref21_Weave.l1 k ((N : Int), (K : Int), (B : Int)) (d : Int) l t (n : Int)) (fun r => r.1.length = c * d * N) := by
    intro m
    have e0 : IntKind.i64.wrap ((l.length : Int) * (N : Int)) = ((c * d * N : Nat) : Int) := by rw [hl, ← Int.natCast_mul, i64_id (by omega) (by omega)]
    induction m with
    | zero =>
      intro k n t h1 h2 h3; obtain ⟨k, rfl, h2⟩ := dec_k h2
      rw [ref21_Weave.l1, bifF (by simp only; rw [e0]; omega)]; exact ex_some (by simp only; omega)
    | succ m ih =>
      intro k n t h1 h2 h3; obtain ⟨k, rfl, h2⟩ := dec_k h2
      obtain ⟨s1, s2⟩ := Spot_lt hK hN h69 hB hd1 hd (a := n) (c := c) (by omega)
      rw [ref21_Weave.l1, bifT (by simp only; rw [e0]; omega), RSpot_eq hK hN h69 hB hd1 hd n (by omega), Option.bind_some, wrap1 (by omega)]
      refine ex_grd ⟨Int.natCast_nonneg _, by rw [hl]; exact Int.ofNat_lt.2 s1⟩ (ex_grd ?_ (ex_grd (by simp; omega) (ih _ _ _ (by omega) (by omega) (by simp; omega))))
      simp only
      rw [at_nat (by rw [hl]; exact s1), hr _ (List.getElem_mem _)]
      exact ⟨Int.natCast_nonneg _, Int.ofNat_lt.2 s2⟩
  have l0 : ∀ (m k n : Nat), n + m = c * d → m + 10000 < k → ExP (ref21_Weave.l0 k ((N : Int), (K : Int), (B : Int)) (d : Int) l (n : Int)) (fun r => r.1.length = c * d * N) := by
    intro m
    induction m with
    | zero =>
      intro k n h1 h2; obtain ⟨k, rfl, h2⟩ := dec_k h2
      rw [ref21_Weave.l0, bifF (by omega), ref21_Weave.j0]
      exact l1 (c * d * N) k 0 [] (by omega) (by omega) rfl
    | succ m ih =>
      intro k n h1 h2; obtain ⟨k, rfl, h2⟩ := dec_k h2
      have hn : n < l.length := by omega
      rw [ref21_Weave.l0, bifT (by omega), grdT (by omega), at_nat hn, hr _ (List.getElem_mem _), bifNF rfl, wrap1 (by omega)]
      exact ih _ _ (by omega) (by omega)
  unfold ref21_Weave.f
  rw [RR21 hK hN h69 hB hd1 hd, Option.bind_some, Bool.not_true, cond_false]
  refine ex_grd (by omega) ?_
  rw [hl, bifNF ((tmod_zero_iff hK hN h69 hB hd1 hd).2 (Nat.dvd_mul_left d c))]
  exact l0 (c * d) k 0 (by omega) (by omega)
theorem Enc22_tot {s : List Int} {k : Nat} (hs : s.length ≤ 80) (hk : 50000 < k) : ExP (ref22_Encode.f k ((N : Int), (K : Int), (B : Int)) (d : Int) (0, 0) s) (fun r => ∃ c, c * d ≤ 100 ∧ r.1.length = 10 + c * d * N) := by
  have hM : ∃ M, s.length ≤ M ∧ M ≤ 100 ∧ d ∣ M := by
    refine ⟨(s.length / d + 1) * d, ?_, ?_, Nat.dvd_mul_left d _⟩
    · have := Nat.div_add_mod s.length d
      have h2 := Nat.mod_lt s.length hd1
      rw [Nat.add_mul, Nat.one_mul, Nat.mul_comm]; omega
    · have := Nat.div_mul_le_self s.length d
      rw [Nat.add_mul, Nat.one_mul]; omega
  obtain ⟨M, hM1, hM2, hM3⟩ := hM
  have loop : ∀ (x : List (List Int) × Int) (hx : ∀ y ∈ x.1, y.length = K) (c : Nat) (hc : x.1.length = c * d) (hc2 : c * d ≤ 100) (i k n : Nat) (l : List (List Int)), n + i = x.1.length → i + 30000 < k → l.length = n → (∀ y ∈ l, y.length = N) →
      ExP (ref22_Encode.l0 k ((N : Int), (K : Int), (B : Int)) (d : Int) s x l (n : Int)) (fun r => ∃ c, c * d ≤ 100 ∧ r.1.length = 10 + c * d * N) := by
    intro x hx c hc hc2 i
    have hcdN : c * d * N ≤ 100 * 69 := Nat.mul_le_mul hc2 h69
    induction i with
    | zero =>
      intro k n l h1 h2 h3 h4; obtain ⟨k, rfl, h2⟩ := dec_k h2
      rw [ref22_Encode.l0, bifF (by omega), ref22_Encode.j0]
      exact ex_bind (Weave_tot hK hN h69 hB hd1 hd (c := c) (by omega) hc2 h4 (by omega)) fun r hr => ex_grd (by simp; omega) (ex_some ⟨c, hc2, by simp; omega⟩)
    | succ i ih =>
      intro k n l h1 h2 h3 h4; obtain ⟨k, rfl, h2⟩ := dec_k h2
      have hn : n < x.1.length := by omega
      rw [ref22_Encode.l0, bifT (by omega), grdT (by omega), at_nat hn, wrap1 (by omega)]
      refine ex_bind (Enc11_tot hK hN h69 hB (hx _ (List.getElem_mem _)) (by omega)) fun w hw => ex_grd (by omega) (ih _ _ _ (by omega) (by omega) (by simp; omega) (fun y hy => ?_))
      rcases List.mem_append.1 hy with h | h
      · exact h4 y h
      · rw [List.mem_singleton.1 h]; exact hw
  unfold ref22_Encode.f ref19_Right.f
  rw [RR21 hK hN h69 hB hd1 hd, Option.bind_some, Bool.not_true, cond_false]
  rw [bifF (by simp), bifF (by simp), bifF (by simp), bifF (by simp), Option.bind_some, bifNF rfl, bifF (by omega)]
  unfold ref21_Blocks.f
  rw [RR21 hK hN h69 hB hd1 hd, Option.bind_some, Bool.not_true, cond_false]
  have hMK : M * (K + 3) ≤ 100 * 72 := Nat.mul_le_mul hM2 (by omega)
  have hb := Blocks_tot hK hN h69 hB hd1 hd hs hM1 hM2 hM3 M k 0 [] (by omega) (by omega) rfl (by simp)
  rw [Nat.zero_mul] at hb
  refine ex_bind hb fun x ⟨h1, h2, h3⟩ => ?_
  obtain ⟨c, hc⟩ := h2
  exact loop x h3 c (by rw [hc, Nat.mul_comm]) (by rw [Nat.mul_comm, ← hc]; exact h1) x.1.length k 0 [] (by omega) (by omega) rfl (by simp)
end
end Go.Proofs.Ythfhhnlnlcbckaa.Gw
