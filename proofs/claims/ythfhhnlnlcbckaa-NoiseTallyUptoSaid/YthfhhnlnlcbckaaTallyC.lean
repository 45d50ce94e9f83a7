/- The plain law of the statement NoiseTally: the tally, and the law. -/
import Derived.Test.YthfhhnlnlcbckaaTallyB
namespace Go.Proofs.Ythfhhnlnlcbckaa.Gw
open Go Go.RowKit
set_option linter.unusedSimpArgs false
set_option linter.unusedVariables false
set_option linter.unusedSectionVars false
set_option maxRecDepth 10000
theorem known_k (k : Nat) : law23_known.f (k + 20) = some true := by kernel_rfl
theorem known_ge {k : Nat} (h : 20 ≤ k) : law23_known.f k = some true := by
  obtain ⟨j, rfl⟩ : ∃ j, k = j + 20 := ⟨k - 20, by omega⟩
  exact known_k j
/-! ### Rows and counts -/
def S (j : Int) : List (List Int) → Int
  | [] => 0
  | r :: R => at_ 0 r j + S j R
theorem S_set (j : Int) (r : List Int) : ∀ (R : List (List Int)) (i : Nat) (h : i < R.length), S j (R.set i r) = S j R - at_ 0 R[i] j + at_ 0 r j
  | [], i, h => absurd h (Nat.not_lt_zero _)
  | x :: R, 0, h => by simp only [List.set_cons_zero, S, List.getElem_cons_zero]; omega
  | x :: R, i + 1, h => by
    have := S_set j r R i (Nat.lt_of_succ_lt_succ h)
    simp only [List.set_cons_succ, S, List.getElem_cons_succ]; omega
theorem S_drop (j : Int) (R : List (List Int)) {n : Nat} (h : n < R.length) : S j (R.drop n) = at_ 0 R[n] j + S j (R.drop (n + 1)) := by
  rw [List.drop_eq_getElem_cons h]; rfl
theorem S_rep (j : Int) (n : Nat) (hj : at_ 0 [0, 0] j = (0 : Int)) : S j (List.replicate n [0, 0]) = 0 := by
  induction n with
  | zero => rfl
  | succ n ih => rw [List.replicate_succ, S, ih, hj]; rfl
theorem S_nonneg {j : Int} : ∀ {R : List (List Int)}, (∀ r ∈ R, 0 ≤ at_ 0 r j) → 0 ≤ S j R
  | [], _ => Int.le_refl _
  | x :: R, h => by
    have h1 := h x (List.mem_cons_self ..)
    have h2 := S_nonneg (R := R) fun r hr => h r (List.mem_cons_of_mem _ hr)
    simp only [S]; omega
theorem S_zero {j : Int} : ∀ {R : List (List Int)}, (∀ r ∈ R, 0 ≤ at_ 0 r j) → S j R = 0 → ∀ r ∈ R, at_ 0 r j = 0
  | [], _, _, r, hr => absurd hr (List.not_mem_nil)
  | x :: R, h, e, r, hr => by
    have h1 := h x (List.mem_cons_self ..)
    have h2 := S_nonneg (R := R) fun r hr => h r (List.mem_cons_of_mem _ hr)
    simp only [S] at e
    rcases List.mem_cons.1 hr with rfl | hr
    · omega
    · exact S_zero (R := R) (fun r hr => h r (List.mem_cons_of_mem _ hr)) (by omega) r hr
def cnt (p : Nat → Bool) : Nat → Nat
  | 0 => 0
  | n + 1 => cnt p n + (bif p n then 1 else 0)
theorem cnt_le (p : Nat → Bool) : ∀ n, cnt p n ≤ n
  | 0 => Nat.le_refl _
  | n + 1 => by have := cnt_le p n; rw [cnt]; cases p n <;> simp <;> omega
theorem cnt_T {p : Nat → Bool} {n : Nat} (h : p n = true) : cnt p (n + 1) = cnt p n + 1 := by rw [cnt, h]; rfl
theorem cnt_F {p : Nat → Bool} {n : Nat} (h : p n = false) : cnt p (n + 1) = cnt p n := by rw [cnt, h]; rfl
theorem cnt_none {p : Nat → Bool} (h : ∀ n, p n = false) : ∀ n, cnt p n = 0
  | 0 => rfl
  | n + 1 => by rw [cnt_F (h n), cnt_none h n]
def pf (fl : List Int) (n : Nat) : Bool := decide (((n + 10 : Nat) : Int) ∈ fl)
def pw (t u fl : List Int) (n : Nat) : Bool := !(pf fl n) && !decide (at_ 0 t ((n + 10 : Nat) : Int) = at_ 0 u ((n + 10 : Nat) : Int))
/-- A row is a pair, its parts no more than n. -/
def Pair (n : Nat) (r : List Int) : Prop := ∃ a b : Int, r = [a, b] ∧ 0 ≤ a ∧ a ≤ n ∧ 0 ≤ b ∧ b ≤ n
theorem Pair.le {m n : Nat} {r : List Int} (h : Pair m r) (hmn : m ≤ n) : Pair n r := by
  obtain ⟨a, b, e, h⟩ := h; exact ⟨a, b, e, by omega⟩
theorem at0 (a b : Int) : at_ 0 [a, b] 0 = a := rfl
theorem at1 (a b : Int) : at_ 0 [a, b] 1 = b := rfl
section
variable {N K B d : Nat} (hK : 1 ≤ K) (hN : K < N) (h69 : N ≤ 69) (hB : B < 255) (hd1 : 1 ≤ d) (hd : d ≤ 5)
include hK hN h69 hB hd1 hd
theorem Spot_in {n c : Nat} (hc : c * d ≤ 100) (hn : n < c * d * N) : ∃ i j : Nat, weave_Spot.f ((N : Int), (K : Int), (B : Int)) (d : Int) (n : Int) = some ((i : Int), (j : Int)) ∧ i < c * d := by
  have hcdN : c * d * N ≤ 100 * 69 := Nat.mul_le_mul hc h69
  exact ⟨_, _, Spot_eq hK hN h69 hB hd1 hd n (by omega), (Spot_lt hK hN h69 hB hd1 hd hn).1⟩
theorem Tally_l1 {c : Nat} {t u fl : List Int} (ht : t.length = 10 + c * d * N) (hu : u.length = t.length) (hc : c * d ≤ 100) (hfl : fl.length ≤ 1048576) :
    ∀ (m k n : Nat) (R : List (List Int)), n + m = c * d * N → m + 1048600 < k → R.length = c * d → (∀ r ∈ R, Pair n r) → S 0 R = cnt (pw t u fl) n → S 1 R = cnt (pf fl) n →
      ExP (noise_Tally.l1 k ((N : Int), (K : Int), (B : Int)) (d : Int) t u fl R (n : Int)) (fun r => r.2 = true ∧ r.1.length = c * d ∧ (∀ x ∈ r.1, Pair 7000 x) ∧ S 0 r.1 = cnt (pw t u fl) (c * d * N) ∧ S 1 r.1 = cnt (pf fl) (c * d * N)) := by
  have hcdN : c * d * N ≤ 100 * 69 := Nat.mul_le_mul hc h69
  have dl : (((t.take t.length).drop (10 : Int).toNat).length : Int) = ((c * d * N : Nat) : Int) := by
    rw [List.take_length, List.length_drop, ht, show (10 : Int).toNat = 10 from rfl]; omega
  intro m
  induction m with
  | zero =>
    intro k n R h1 h2 h3 h4 h5 h6; obtain ⟨k, rfl, h2⟩ := dec_k h2
    obtain rfl : n = c * d * N := by omega
    rw [noise_Tally.l1, dl, bifF (by omega)]; exact ex_some ⟨rfl, h3, fun x hx => (h4 x hx).le (by omega), h5, h6⟩
  | succ m ih =>
    intro k n R h1 h2 h3 h4 h5 h6; obtain ⟨k, rfl, h2⟩ := dec_k h2
    obtain ⟨i, j, es, hi⟩ := Spot_in hK hN h69 hB hd1 hd (n := n) hc (by omega)
    have hiR : i < R.length := by omega
    have hn0 : ¬ ((n : Int) + 10 < 0) := by omega
    have e10 : IntKind.i64.wrap ((n : Int) + 10) = ((n + 10 : Nat) : Int) := by rw [i64_id (by omega) (by omega)]; omega
    obtain ⟨a, b, er, a0, a1, b0, b1⟩ := h4 _ (List.getElem_mem hiR)
    have hset : ∀ r', Pair (n + 1) r' → ∀ r ∈ R.set i r', Pair (n + 1) r := fun r' hr' r hr => by
      rcases List.mem_or_eq_of_mem_set hr with h | h
      · exact (h4 r h).le (by omega)
      · rw [h]; exact hr'
    rw [noise_Tally.l1, dl, bifT (by omega), es, Option.bind_some, e10, Contains_eq (by omega) (by omega), Option.bind_some, wrap1 (by omega)]
    simp only
    by_cases hf : ((n + 10 : Nat) : Int) ∈ fl
    · have p1 : pf fl n = true := decide_eq_true hf
      have p2 : pw t u fl n = false := by rw [pw, p1]; rfl
      rw [bifT hf, grdT (by omega), at_nat hiR, er, grdT (by simp), grdT (by simp), at1, i64_id (x := b + 1) (by omega) (by omega)]
      refine ih k (n + 1) _ (by omega) (by omega) (by rw [List.length_set]; exact h3) (hset _ ⟨a, b + 1, rfl, by omega⟩) ?_ ?_
      · rw [Int.toNat_natCast, S_set 0 _ R i hiR, er, cnt_F p2, h5]
        show _ - a + a = _
        omega
      · rw [Int.toNat_natCast, S_set 1 _ R i hiR, er, cnt_T p1, h6]
        show _ - b + (b + 1) = _
        omega
    · have p1 : pf fl n = false := decide_eq_false hf
      rw [bifF hf]
      refine ex_grd (by omega) (ex_grd (by omega) ?_)
      by_cases hw : at_ 0 t ((n + 10 : Nat) : Int) = at_ 0 u ((n + 10 : Nat) : Int)
      · have p2 : pw t u fl n = false := by rw [pw, p1, decide_eq_true hw]; rfl
        rw [bifNF hw]
        exact ih k (n + 1) _ (by omega) (by omega) h3 (fun r hr => (h4 r hr).le (by omega)) (by rw [cnt_F p2, h5]) (by rw [cnt_F p1, h6])
      · have p2 : pw t u fl n = true := by rw [pw, p1, decide_eq_false hw]; rfl
        rw [bifNT hw, grdT (by omega), at_nat hiR, er, grdT (by simp), grdT (by simp), at0, i64_id (x := a + 1) (by omega) (by omega)]
        refine ih k (n + 1) _ (by omega) (by omega) (by rw [List.length_set]; exact h3) (hset _ ⟨a + 1, b, rfl, by omega⟩) ?_ ?_
        · rw [Int.toNat_natCast, S_set 0 _ R i hiR, er, cnt_T p2, h5]
          show _ - a + (a + 1) = _
          omega
        · rw [Int.toNat_natCast, S_set 1 _ R i hiR, er, cnt_F p1, h6]
          show _ - b + b = _
          omega
theorem Tally_tot {c k : Nat} {t u fl : List Int} (ht : t.length = 10 + c * d * N) (hu : u.length = t.length) (hc : c * d ≤ 100) (hfl : fl.length ≤ 1048576) (hk : 2000000 < k) :
    ExP (noise_Tally.f k ((N : Int), (K : Int), (B : Int)) (d : Int) t u fl) (fun r => r.2 = true ∧ r.1.length = c * d ∧ (∀ x ∈ r.1, Pair 7000 x) ∧ S 0 r.1 = cnt (pw t u fl) (c * d * N) ∧ S 1 r.1 = cnt (pf fl) (c * d * N)) := by
  have hcdN : c * d * N ≤ 100 * 69 := Nat.mul_le_mul hc h69
  unfold noise_Tally.f
  rw [bifNF (by omega), bifF (by omega)]
  simp only
  refine ex_grd (by omega) (ex_bind (Unweave_tot hK hN h69 hB hd1 hd (c := c) (by rw [List.take_length, List.length_drop, ht, show (10 : Int).toNat = 10 from rfl]; omega) hc (by omega)) fun x ⟨hx0, hx1⟩ => ?_)
  rw [bifNF hx0]
  refine ex_grd (by omega) ?_
  have l0 : ∀ (m k n : Nat) (l : List (List Int)), n + m = c * d → m + 1900000 < k → l.length = c * d → (∀ i (h : i < l.length), i < n → l[i] = [0, 0]) → ExP (noise_Tally.l0 k ((N : Int), (K : Int), (B : Int)) (d : Int) t u fl x l (n : Int)) (fun r => r.2 = true ∧ r.1.length = c * d ∧ (∀ x ∈ r.1, Pair 7000 x) ∧ S 0 r.1 = cnt (pw t u fl) (c * d * N) ∧ S 1 r.1 = cnt (pf fl) (c * d * N)) := by
    intro m
    induction m with
    | zero =>
      intro k n l h1 h2 h3 h4; obtain ⟨k, rfl, h2⟩ := dec_k h2
      have el : l = List.replicate (c * d) [0, 0] := List.ext_getElem (by simpa using h3) fun i h5 h6 => by rw [h4 i h5 (by omega), List.getElem_replicate]
      rw [noise_Tally.l0, List.length_replicate, bifF (by omega), noise_Tally.j0]
      refine ex_grd (by omega) (Tally_l1 hK hN h69 hB hd1 hd ht hu hc hfl (c * d * N) k 0 l (by omega) (by omega) h3 (fun r hr => ?_) ?_ ?_)
      · rw [el] at hr; rw [List.eq_of_mem_replicate hr]; exact ⟨0, 0, rfl, by omega⟩
      · rw [el, S_rep 0 _ rfl]; rfl
      · rw [el, S_rep 1 _ rfl]; rfl
    | succ m ih =>
      intro k n l h1 h2 h3 h4; obtain ⟨k, rfl, h2⟩ := dec_k h2
      rw [noise_Tally.l0, List.length_replicate, bifT (by omega), wrap1 (by omega)]
      refine ex_grd (by omega) (ex_grd (by omega) (ih k (n + 1) _ (by omega) (by omega) (by simpa using h3) (fun i h5 h6 => ?_)))
      rw [List.getElem_set]
      by_cases hin : ((n : Int).toNat) = i
      · rw [if_pos hin]; rfl
      · rw [if_neg hin]; exact h4 i (by simpa using h5) (by omega)
  refine l0 (c * d) k 0 _ (by omega) (by omega) (by simp; omega) (fun i _ h => absurd h (Nat.not_lt_zero _))
/-- What nobody is to bear is borne. -/
theorem Bears_zero {R : List (List Int)} {k : Nat} (hR : R.length ≤ 1000) (h : ∀ r ∈ R, r = [0, 0]) (hk : 2000 < k) : noise_Bears.f k ((N : Int), (K : Int), (B : Int)) R = some true := by
  have sp : code_Space.f ((N : Int), (K : Int), (B : Int)) = some ((N - K : Nat) : Int) := by
    unfold code_Space.f
    have := Right_ok (N := (N : Int)) (K := (K : Int)) (B := (B : Int)) (by omega) (by omega) (by omega) (by omega) (by omega)
    simp only
    rw [this, Option.bind_some, bifNF rfl, i64_id (x := (N : Int) - (K : Int)) (by omega) (by omega)]
    congr 1; omega
  unfold noise_Bears.f
  simp only
  rw [sp, Option.bind_some, bifT (by omega)]
  have loop : ∀ (m k n : Nat), n + m = R.length → m < k → noise_Bears.l0 k R ((N - K : Nat) : Int) (n : Int) = some true := by
    intro m
    induction m with
    | zero => intro k n h1 h2; obtain ⟨k, rfl, h2⟩ := dec_k h2; rw [noise_Bears.l0, bifF (by omega)]; rfl
    | succ m ih =>
      intro k n h1 h2; obtain ⟨k, rfl, h2⟩ := dec_k h2
      have hn : n < R.length := by omega
      have e1 : min2 (0 : Int) 0 = 0 := rfl
      have e2 : max2 (0 : Int) 0 = 0 := rfl
      have e3 : IntKind.i64.wrap (IntKind.i64.wrap (2 * 0) + 0) = 0 := rfl
      rw [noise_Bears.l0, bifT (by omega), grdT (by omega), at_nat hn, h _ (List.getElem_mem hn), bifNF (by rfl), grdT (by simp), grdT (by simp), at0, at1, e1, bifF (by omega), grdT (by simp), grdT (by simp), e2, bifF (by omega), grdT (by simp), grdT (by simp), e3, decide_eq_false (by omega), noise_Bears.j1, cond_false, wrap1 (by omega)]
      exact ih k (n + 1) (by omega) (by omega)
  exact loop R.length k 0 (by omega) (by omega)
theorem Tally_short {k : Nat} {t : List Int} (h : 0 < t.length) (h2 : t.length < 1000000) : noise_Tally.f k ((N : Int), (K : Int), (B : Int)) (d : Int) t ((t.take (IntKind.i64.wrap ((t.length : Int) - 1)).toNat).drop 0) [] = some ([], false) := by
  have e : IntKind.i64.wrap ((t.length : Int) - 1) = (t.length : Int) - 1 := i64_id (by omega) (by omega)
  unfold noise_Tally.f
  rw [e, bifNT (by rw [List.drop_zero, List.length_take]; omega)]
theorem Tally_law {k : Nat} {s x y z : List Int} {nn kk oo ee : Int} (hs : s.length ≤ 80) (hx : x.length ≤ 1048576) (hz : z.length ≤ 1048576) (hb : ∀ v ∈ x, 0 ≤ v ∧ v ≤ 255)
    (eS : law18_Small.f nn kk oo = some ((N : Int), (K : Int), (B : Int))) (eD : law22_Depth.f ee = some (d : Int)) (hk : 10000000 ≤ k) : law23_NoiseTally.f k nn kk oo ee s x y z = some true := by
  unfold law23_NoiseTally.f
  rw [bifF (by omega), eS, Option.bind_some, eD, Option.bind_some]
  simp only
  obtain ⟨⟨t, t2⟩, eE, c, hc, ht⟩ := Enc22_tot hK hN h69 hB hd1 hd (s := s) (k := k) hs (by omega)
  simp only at ht
  have hcdN : c * d * N ≤ 100 * 69 := Nat.mul_le_mul hc h69
  rw [eE, Option.bind_some]
  obtain ⟨⟨u, fl⟩, eH, hu, hfl⟩ := Hurt_tot (t := t) (x := x) (y := y) (z := z) (k := k) hx hz (by omega) (by omega) hb (by omega)
  simp only at hu hfl ⊢
  rw [eH, Option.bind_some]
  obtain ⟨⟨A, a2⟩, eA, hA2, hA3, hA4, hA5, hA6⟩ := Tally_tot hK hN h69 hB hd1 hd (c := c) (k := k) ht hu hc hfl (by omega)
  obtain ⟨⟨Z, b2⟩, eZ, hZ2, hZ3, hZ4, hZ5, hZ6⟩ := Tally_tot hK hN h69 hB hd1 hd (c := c) (k := k) (t := t) (u := t) (fl := []) ht rfl hc (by simp) (by omega)
  simp only at hA2 hA3 hA4 hA5 hA6 hZ2 hZ3 hZ4 hZ5 hZ6 ⊢
  rw [eA, Option.bind_some, eZ, Option.bind_some]
  subst hA2 hZ2
  have hZ : ∀ r ∈ Z, r = [0, 0] := by
    have f0 : ∀ n, pf [] n = false := fun n => rfl
    have w0 : ∀ n, pw t t [] n = false := fun n => by rw [pw, decide_eq_true rfl]; simp
    rw [cnt_none w0] at hZ5
    rw [cnt_none f0] at hZ6
    have n0 : ∀ r ∈ Z, 0 ≤ at_ 0 r 0 := fun r hr => by obtain ⟨a, b, rfl, h0, h1, h2, h3⟩ := hZ4 r hr; exact h0
    have n1 : ∀ r ∈ Z, 0 ≤ at_ 0 r 1 := fun r hr => by obtain ⟨a, b, rfl, h0, h1, h2, h3⟩ := hZ4 r hr; exact h2
    intro r hr
    have z0 := S_zero n0 hZ5 r hr
    have z1 := S_zero n1 hZ6 r hr
    obtain ⟨a, b, rfl, _⟩ := hZ4 r hr
    rw [at0] at z0; rw [at1] at z1; rw [z0, z1]
  have j1 : ∀ (k : Nat), 3000000 < k → law23_NoiseTally.j1 k ((N : Int), (K : Int), (B : Int)) (d : Int) (t, t2) (A, true) (Z, true) 0 0 = some true := by
    intro k hk
    have e : IntKind.i64.wrap ((t.length : Int) - 1) = (t.length : Int) - 1 := i64_id (by omega) (by omega)
    have e10 : IntKind.i64.wrap ((t.length : Int) - 10) = ((c * d * N : Nat) : Int) := by rw [i64_id (by omega) (by omega)]; omega
    have ediv : Int.tdiv ((c * d * N : Nat) : Int) (N : Int) = ((c * d : Nat) : Int) := by rw [Int.natCast_mul]; exact Int.mul_tdiv_cancel _ (by omega)
    unfold law23_NoiseTally.j1
    simp only
    rw [Tally_short hK hN h69 hB hd1 hd (t := t) (by omega) (by omega), Option.bind_some, known_ge (by omega), Option.bind_some, cond_true, cond_true, cond_true, decide_true, cond_true, cond_true, Bears_zero hK hN h69 hB hd1 hd (by omega) hZ (by omega), Option.bind_some, cond_true]
    simp only [Bool.not_false, cond_true]
    rw [e, e10, ediv, wrapN (n := c * d) (by omega), hA3, grdT (by omega), grdT (by omega), decide_eq_true rfl]
  have l1 : ∀ (m k n : Nat) (p q : Int), n + m = A.length → m + 4000000 < k → p = S 0 (A.drop n) → q = S 1 (A.drop n) → -10000000 ≤ p → p ≤ 10000000 → -10000000 ≤ q → q ≤ 10000000 → law23_NoiseTally.l1 k ((N : Int), (K : Int), (B : Int)) (d : Int) (t, t2) (A, true) (Z, true) p q (n : Int) = some true := by
    intro m
    induction m with
    | zero =>
      intro k n p q h1 h2 h3 h4 p0 p1 q0 q1; obtain ⟨k, rfl, h2⟩ := dec_k h2
      rw [List.drop_of_length_le (by omega)] at h3 h4
      rw [law23_NoiseTally.l1, bifF (by simp only; omega), h3, h4]
      exact j1 k (by omega)
    | succ m ih =>
      intro k n p q h1 h2 h3 h4 p0 p1 q0 q1; obtain ⟨k, rfl, h2⟩ := dec_k h2
      have hn : n < A.length := by omega
      obtain ⟨a, b, er, a0, a1, b0, b1⟩ := hA4 _ (List.getElem_mem hn)
      have s0 := S_drop 0 A hn
      have s1 := S_drop 1 A hn
      have g0 : 0 ≤ S 0 (A.drop (n + 1)) := S_nonneg fun r hr => by obtain ⟨a, b, rfl, h0, h1, h2, h3⟩ := hA4 r (List.mem_of_mem_drop hr); exact h0
      have g1 : 0 ≤ S 1 (A.drop (n + 1)) := S_nonneg fun r hr => by obtain ⟨a, b, rfl, h0, h1, h2, h3⟩ := hA4 r (List.mem_of_mem_drop hr); exact h2
      rw [er, at0] at s0
      rw [er, at1] at s1
      rw [law23_NoiseTally.l1, bifT (by simp only; omega)]
      simp only
      rw [grdT (by omega), at_nat hn, er, bifNF (by rfl), grdT (by omega), grdT (by simp), grdT (by omega), grdT (by simp), at0, at1, i64_id (x := p - a) (by omega) (by omega), i64_id (x := q - b) (by omega) (by omega), wrap1 (by omega)]
      exact ih k (n + 1) _ _ (by omega) (by omega) (by omega) (by omega) (by omega) (by omega) (by omega) (by omega)
  have l0 : ∀ (m k n : Nat), n + m = c * d * N → m + 5000000 < k → law23_NoiseTally.l0 k ((N : Int), (K : Int), (B : Int)) (d : Int) (t, t2) (u, fl) (A, true) (Z, true) (cnt (pw t u fl) n : Int) (cnt (pf fl) n : Int) ((n + 10 : Nat) : Int) = some true := by
    intro m
    induction m with
    | zero =>
      intro k n h1 h2; obtain ⟨k, rfl, h2⟩ := dec_k h2
      obtain rfl : n = c * d * N := by omega
      have b0 := cnt_le (pw t u fl) (c * d * N)
      have b1 := cnt_le (pf fl) (c * d * N)
      rw [law23_NoiseTally.l0, bifF (by simp only; omega), law23_NoiseTally.j0]
      exact l1 A.length k 0 _ _ (by omega) (by omega) (by rw [List.drop_zero, hA5]) (by rw [List.drop_zero, hA6]) (by omega) (by omega) (by omega) (by omega)
    | succ m ih =>
      intro k n h1 h2; obtain ⟨k, rfl, h2⟩ := dec_k h2
      have b0 := cnt_le (pw t u fl) n
      have b1 := cnt_le (pf fl) n
      obtain ⟨pl, ep, hp⟩ := Place_tot (a := fl) (v := ((n + 10 : Nat) : Int)) (by omega) fl.length k 0 (by omega) (by omega)
      have ep' : ref12_Place.f k fl ((n + 10 : Nat) : Int) = some pl := ep
      rw [List.drop_zero] at hp
      have next := ih k (n + 1) (by omega) (by omega)
      have e11 : IntKind.i64.wrap (((n + 10 : Nat) : Int) + 1) = ((n + 1 + 10 : Nat) : Int) := by rw [wrap1 (by omega)]
      rw [law23_NoiseTally.l0, bifT (by simp only; omega)]
      simp only
      rw [ep', Option.bind_some, e11]
      by_cases hf : ((n + 10 : Nat) : Int) ∈ fl
      · have p1 : pf fl n = true := decide_eq_true hf
        have p2 : pw t u fl n = false := by rw [pw, p1]; rfl
        rw [cnt_T p1, cnt_F p2] at next
        rw [bifT (hp.2 hf), wrap1 (by omega)]
        exact next
      · have p1 : pf fl n = false := decide_eq_false hf
        rw [bifF (fun h => hf (hp.1 h)), grdT (by omega), grdT (by omega)]
        by_cases hw : at_ 0 t ((n + 10 : Nat) : Int) = at_ 0 u ((n + 10 : Nat) : Int)
        · have p2 : pw t u fl n = false := by rw [pw, p1, decide_eq_true hw]; rfl
          rw [cnt_F p1, cnt_F p2] at next
          rw [bifNF hw]; exact next
        · have p2 : pw t u fl n = true := by rw [pw, p1, decide_eq_false hw]; rfl
          rw [cnt_F p1, cnt_T p2] at next
          rw [bifNT hw, wrap1 (by omega)]; exact next
  exact l0 (c * d * N) k 0 (by omega) (by omega)
end
/-- The plain law. -/
theorem NoiseTally_pure {k : Nat} {n kk o e : Int} {s x y z : List Int} (n0 : 0 ≤ n) (n1 : n ≤ 255) (k0 : 0 ≤ kk) (k1 : kk ≤ 255) (o0 : 0 ≤ o) (o1 : o ≤ 255) (e0 : 0 ≤ e) (e1 : e ≤ 255)
    (hx : x.length ≤ 1048576) (hz : z.length ≤ 1048576) (hb : ∀ v ∈ x, 0 ≤ v ∧ v ≤ 255) (hk : 10000000 ≤ k) : law23_NoiseTally.f k n kk o e s x y z = some true := by
  by_cases h80 : (80 : Int) < (s.length : Int)
  · unfold law23_NoiseTally.f
    rw [bifT h80, known_ge (by omega)]; rfl
  · obtain ⟨N, K, B, h, h1, h2, h3, h4⟩ := Small_cases n0 n1 k0 k1 o0 o1
    have hd : law22_Depth.f e = some (((1 + e % 5).toNat : Nat) : Int) := by
      unfold law22_Depth.f
      rw [Int.tmod_eq_emod_of_nonneg e0, i64_id (x := e % 5) (by omega) (by omega), i64_id (x := 1 + e % 5) (by omega) (by omega), Int.toNat_of_nonneg (by omega)]
    exact Tally_law h1 h2 h3 h4 (d := (1 + e % 5).toNat) (by omega) (by omega) (by omega) hx hz hb h hd hk
end Go.Proofs.Ythfhhnlnlcbckaa.Gw
