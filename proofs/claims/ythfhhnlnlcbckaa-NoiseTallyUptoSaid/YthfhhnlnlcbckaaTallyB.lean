/- The plain law of the statement NoiseTally: what is hurt, unwoven and tallied. -/
import Derived.Test.YthfhhnlnlcbckaaTally
namespace Go.Proofs.Ythfhhnlnlcbckaa.Gw
open Go Go.RowKit
set_option linter.unusedSimpArgs false
set_option linter.unusedVariables false
set_option linter.unusedSectionVars false
/-! ### Lists -/
theorem Index_l0 {a : List Int} {v : Int} (ha : a.length < 4611686018427387904) : ∀ (m k n : Nat), n + m = a.length → m < k → ExP (slices_Index.l0 k a v (n : Int)) (fun r => 0 ≤ r ↔ v ∈ a.drop n) := by
  intro m
  induction m with
  | zero =>
    intro k n h1 h2; obtain ⟨k, rfl, h2⟩ := dec_k h2
    rw [slices_Index.l0, bifF (by omega), List.drop_of_length_le (by omega)]; exact ex_some (by simp)
  | succ m ih =>
    intro k n h1 h2; obtain ⟨k, rfl, h2⟩ := dec_k h2
    have hn : n < a.length := by omega
    rw [slices_Index.l0, bifT (by omega), grdT (by omega), at_nat hn, wrap1 (by omega), List.drop_eq_getElem_cons hn]
    by_cases hv : v = a[n]
    · rw [bifT hv]; exact ex_some ⟨fun _ => List.mem_cons.2 (.inl hv), fun _ => by omega⟩
    · rw [bifF hv]
      exact ex_mono (ih k (n + 1) (by omega) (by omega)) fun r hr => by rw [hr, List.mem_cons]; simp [hv]
theorem Contains_eq {a : List Int} {v : Int} {k : Nat} (ha : a.length < 4611686018427387904) (hk : a.length < k) : slices_Contains.f k a v = some (decide (v ∈ a)) := by
  obtain ⟨r, e, h⟩ := Index_l0 (v := v) ha a.length k 0 (by omega) hk
  unfold slices_Contains.f slices_Index.f
  have e' : slices_Index.l0 k a v 0 = some r := e
  rw [e', Option.bind_some]
  congr 1
  exact decide_eq_decide.2 (by simpa using h)
theorem Place_tot {a : List Int} {v : Int} (ha : a.length < 4611686018427387904) : ∀ (m k n : Nat), n + m = a.length → m < k → ExP (ref12_Place.l0 k a v (n : Int)) (fun r => 0 ≤ r ↔ v ∈ a.drop n) := by
  intro m
  induction m with
  | zero =>
    intro k n h1 h2; obtain ⟨k, rfl, h2⟩ := dec_k h2
    rw [ref12_Place.l0, bifF (by omega), List.drop_of_length_le (by omega)]; exact ex_some (by simp)
  | succ m ih =>
    intro k n h1 h2; obtain ⟨k, rfl, h2⟩ := dec_k h2
    have hn : n < a.length := by omega
    rw [ref12_Place.l0, bifT (by omega), grdT (by omega), at_nat hn, wrap1 (by omega), List.drop_eq_getElem_cons hn]
    by_cases hv : a[n] = v
    · rw [bifT hv]; exact ex_some ⟨fun _ => List.mem_cons.2 (.inl hv.symm), fun _ => by omega⟩
    · rw [bifF hv]
      exact ex_mono (ih k (n + 1) (by omega) (by omega)) fun r hr => by rw [hr, List.mem_cons]; simp [Ne.symm hv]
/-! ### What is hurt -/
theorem Hurt_l1 {z T : List Int} (hz : z.length ≤ 1048576) (hT : 0 < T.length) : ∀ (m k n : Nat) (f : List Int), n + m = z.length → m < k → f.length = n → ExP (law22_Hurt.l1 k z T f (n : Int)) (fun r => r.1 = T ∧ r.2.length ≤ 1048576) := by
  intro m
  induction m with
  | zero => intro k n f h1 h2 h3; obtain ⟨k, rfl, h2⟩ := dec_k h2; rw [law22_Hurt.l1, bifF (by omega)]; exact ex_some ⟨rfl, by simp only; omega⟩
  | succ m ih =>
    intro k n f h1 h2 h3; obtain ⟨k, rfl, h2⟩ := dec_k h2
    rw [law22_Hurt.l1, bifT (by omega), bifT (by omega), wrap1 (by omega)]
    exact ex_grd (by omega) (ex_grd (by omega) (ex_bif (ex_grd (by omega) (ex_grd (by simp; omega) (ih _ _ _ (by omega) (by omega) (by simp; omega)))) (ex_grd (by simp; omega) (ih _ _ _ (by omega) (by omega) (by simp; omega)))))
theorem Hurt_l0 {x y z : List Int} {L : Nat} (hx : x.length ≤ 1048576) (hz : z.length ≤ 1048576) (hL : 0 < L) (hL2 : L ≤ 1000000) (hb : ∀ v ∈ x, 0 ≤ v ∧ v ≤ 255) :
    ∀ (m k n : Nat) (l : List Int), x.length ≤ n + m → n ≤ x.length + 2 → m + z.length + 10 < k → l.length = L → ExP (law22_Hurt.l0 k x y z l (n : Int)) (fun r => r.1.length = L ∧ r.2.length ≤ 1048576) := by
  have fin : ∀ (k : Nat) (l : List Int), z.length < k → l.length = L → ExP (law22_Hurt.j0 (law22_Hurt.l1 k) k z l) (fun r => r.1.length = L ∧ r.2.length ≤ 1048576) := by
    intro k l h1 h2
    rw [law22_Hurt.j0]
    exact ex_mono (Hurt_l1 hz (by omega) z.length k 0 [] (by omega) h1 rfl) fun r hr => ⟨by rw [hr.1]; exact h2, hr.2⟩
  intro m
  induction m with
  | zero =>
    intro k n l h1 h1' h2 h3; obtain ⟨k, rfl, h2⟩ := dec_k h2
    rw [law22_Hurt.l0, wrap1 (by omega), bifF (by omega)]
    exact fin k l (by omega) h3
  | succ m ih =>
    intro k n l h1 h1' h2 h3; obtain ⟨k, rfl, h2⟩ := dec_k h2
    rw [law22_Hurt.l0, wrap1 (by omega)]
    by_cases hn : ((n + 1 : Nat) : Int) < (x.length : Int)
    · have hn0 : n < x.length := by omega
      have hn1 : n + 1 < x.length := by omega
      have b0 := hb _ (List.getElem_mem hn0)
      have b1 := hb _ (List.getElem_mem hn1)
      have e2 : IntKind.i64.wrap ((n : Int) + 2) = ((n + 2 : Nat) : Int) := by rw [i64_id (by omega) (by omega)]; omega
      rw [bifT hn, bifT (by omega)]
      have j1 : ExP (law22_Hurt.j1 (law22_Hurt.l0 k) k x y z l (n : Int)) (fun r => r.1.length = L ∧ r.2.length ≤ 1048576) := by
        rw [law22_Hurt.j1, wrap1 (by omega), at_nat hn0, at_nat hn1, i64_id (x := x[n]) (by omega) (by omega), i64_id (x := x[n + 1]) (by omega) (by omega), i64_id (x := x[n] * 256) (by omega) (by omega), i64_id (x := x[n] * 256 + x[n + 1]) (by omega) (by omega), e2, Int.tmod_eq_emod_of_nonneg (by omega)]
        have i0 := Int.emod_nonneg (x[n] * 256 + x[n + 1]) (b := (l.length : Int)) (by omega)
        have i1 := Int.emod_lt_of_pos (x[n] * 256 + x[n + 1]) (b := (l.length : Int)) (by omega)
        generalize (x[n] * 256 + x[n + 1]) % (l.length : Int) = ix at i0 i1
        by_cases hy : (n : Int) < (y.length : Int)
        · rw [bifT hy]
          exact ex_grd (by omega) (ex_grd (by omega) (ex_grd (by omega) (ih _ _ _ (by omega) (by omega) (by omega) (by simpa using h3))))
        · rw [bifF hy]
          exact ex_grd (by omega) (ex_grd (by omega) (ih _ _ _ (by omega) (by omega) (by omega) (by simpa using h3)))
      refine ex_grd (by omega) (ex_grd (by omega) (ex_grd (by omega) (ex_bif (ex_bif ?_ j1) j1)))
      rw [e2]
      exact ih _ _ _ (by omega) (by omega) (by omega) h3
    · rw [bifF hn]; exact fin k l (by omega) h3
theorem Hurt_tot {t x y z : List Int} {k : Nat} (hx : x.length ≤ 1048576) (hz : z.length ≤ 1048576) (ht : 0 < t.length) (ht2 : t.length ≤ 1000000) (hb : ∀ v ∈ x, 0 ≤ v ∧ v ≤ 255) (hk : 3000000 < k) :
    ExP (law22_Hurt.f k t x y z) (fun r => r.1.length = t.length ∧ r.2.length ≤ 1048576) := by
  unfold law22_Hurt.f
  rw [List.nil_append]
  exact ex_grd (by simp; omega) (Hurt_l0 hx hz ht ht2 hb x.length k 0 t (by omega) (by omega) (by omega) rfl)
/-! ### What is unwoven -/
section
variable {N K B d : Nat} (hK : 1 ≤ K) (hN : K < N) (h69 : N ≤ 69) (hB : B < 255) (hd1 : 1 ≤ d) (hd : d ≤ 5)
include hK hN h69 hB hd1 hd
theorem loom_ok : weave_loom_right.f (((N : Int), (K : Int), (B : Int)), (d : Int)) = some 0 := by
  unfold weave_loom_right.f
  rw [bifF (by simp only; omega), bifF (by simp only; omega)]
  have := Right_ok (N := (N : Int)) (K := (K : Int)) (B := (B : Int)) (by omega) (by omega) (by omega) (by omega) (by omega)
  rw [this]; rfl
theorem sheaf_eq : weave_loom_sheaf.f (((N : Int), (K : Int), (B : Int)), (d : Int)) = some ((N * d : Nat) : Int) := by
  have h1 : N * d ≤ 69 * 5 := Nat.mul_le_mul h69 hd
  unfold weave_loom_sheaf.f
  simp only
  rw [← Int.natCast_mul, wrapN (by omega)]
theorem Spot_eq (a : Nat) (ha : a < 1000000) : weave_Spot.f ((N : Int), (K : Int), (B : Int)) (d : Int) (a : Int) = some (((a / (N * d) * d + a % (N * d) % d : Nat) : Int), ((a % (N * d) / d : Nat) : Int)) := by
  have h1 : N * d ≤ 69 * 5 := Nat.mul_le_mul h69 hd
  have h2 : 1 ≤ N * d := Nat.mul_pos (by omega) hd1
  have q1 : a / (N * d) ≤ a := Nat.div_le_self _ _
  have q2 : a / (N * d) * d ≤ 1000000 * 5 := Nat.mul_le_mul (by omega) hd
  have q3 : a % (N * d) % d < d := Nat.mod_lt _ hd1
  have q4 : a % (N * d) / d ≤ a % (N * d) := Nat.div_le_self _ _
  have q5 : a % (N * d) < N * d := Nat.mod_lt _ h2
  unfold weave_Spot.f
  rw [loom_ok hK hN h69 hB hd1 hd, Option.bind_some, bifNF rfl, bifF (by omega), sheaf_eq hK hN h69 hB hd1 hd, Option.bind_some, Option.bind_some, grdT (by omega), grdT (by omega), grdT (by omega), grdT (by omega)]
  have t1 : ∀ x y : Nat, (x : Int).tdiv (y : Int) = ((x / y : Nat) : Int) := fun x y => by rw [Int.tdiv_eq_ediv_of_nonneg (Int.natCast_nonneg _), Int.natCast_ediv]
  have t2 : ∀ x y : Nat, (x : Int).tmod (y : Int) = ((x % y : Nat) : Int) := fun x y => by rw [Int.tmod_eq_emod_of_nonneg (Int.natCast_nonneg _), Int.natCast_emod]
  rw [t1, t2, t2, t1]
  rw [wrapN (n := a / (N * d)) (by omega), ← Int.natCast_mul, wrapN (n := a / (N * d) * d) (by omega), ← Int.natCast_add, wrapN (n := a / (N * d) * d + a % (N * d) % d) (by omega), wrapN (n := a % (N * d) / d) (by omega)]
set_option maxRecDepth 10000 in
theorem Unweave_tot {t : List Int} {c k : Nat} (ht : t.length = c * d * N) (hc : c * d ≤ 100) (hk : 100000 < k) : ExP (weave_Unweave.f k ((N : Int), (K : Int), (B : Int)) (d : Int) t) (fun r => r.2 = 0 ∧ r.1.length = c * d) := by
  have h1 : N * d ≤ 69 * 5 := Nat.mul_le_mul h69 hd
  have h2 : 1 ≤ N * d := Nat.mul_pos (by omega) hd1
  have e0 : c * d * N = c * (N * d) := by rw [Nat.mul_assoc, Nat.mul_comm d N]
  have hcd : c ≤ c * d := Nat.le_mul_of_pos_right c hd1
  have hlen : c * (N * d) ≤ 100 * 345 := Nat.mul_le_mul (by omega) h1
  have l0 : ∀ (m k n : Nat) (l : List (List Int)), n + m = c → m * 500 + 50 < k → l.length = n * d → ExP (weave_Unweave.l0 k ((N : Int), (K : Int), (B : Int)) (d : Int) t ((N * d : Nat) : Int) l ((n * (N * d) : Nat) : Int)) (fun r => r.2 = 0 ∧ r.1.length = c * d) := by
    intro m
    induction m with
    | zero =>
      intro k n l h3 h4 h5; obtain ⟨k, rfl, h4⟩ := dec_k h4
      obtain rfl : n = c := by omega
      rw [weave_Unweave.l0, bifF (by omega)]; exact ex_some ⟨rfl, h5⟩
    | succ m ih =>
      intro k n l h3 h4 h5; obtain ⟨k, rfl, h4⟩ := dec_k h4
      have s1 : (n + 1) * (N * d) = n * (N * d) + N * d := by rw [Nat.add_mul, Nat.one_mul]
      have s2 : (n + 1) * (N * d) ≤ c * (N * d) := Nat.mul_le_mul_right _ (by omega)
      have s3 : n * d + d ≤ c * d := by have : (n + 1) * d ≤ c * d := Nat.mul_le_mul_right _ (by omega); rw [Nat.add_mul, Nat.one_mul] at this; exact this
      generalize hP : n * (N * d) = Pn at s1 s2
      have dl : (((t.take t.length).drop ((Pn : Nat) : Int).toNat).length : Int) = (c * (N * d) : Nat) - (Pn : Nat) := by
        rw [List.take_length, List.length_drop, ht, e0, Int.toNat_natCast]; omega
      have mn : min2 ((N * d : Nat) : Int) (((t.take t.length).drop ((Pn : Nat) : Int).toNat).length : Int) = ((N * d : Nat) : Int) := by
        rw [dl]; unfold min2; split <;> omega
      have en : IntKind.i64.wrap (((Pn : Nat) : Int) + ((N * d : Nat) : Int)) = ((Pn + N * d : Nat) : Int) := by rw [← Int.natCast_add, wrapN (by omega)]
      have ch : (((t.take ((Pn + N * d : Nat) : Int).toNat).drop ((Pn : Nat) : Int).toNat).length : Int) = ((N * d : Nat) : Int) := by
        rw [List.length_drop, List.length_take, ht, e0, Int.toNat_natCast, Int.toNat_natCast]; omega
      have l2 : ∀ (j : Nat) (hj : j < d) (l : List (List Int)) (i k n : Nat) (row : List Int), n + i = N → i + (d - (j + 1)) * 75 + 62 + m * 500 < k → row.length = N → l.length + 1 < 1000 →
          (∀ (k : Nat) (l' : List (List Int)), (d - (j + 1)) * 75 + 60 + m * 500 < k → l'.length = l.length + 1 → ExP (weave_Unweave.l1 k ((N : Int), (K : Int), (B : Int)) (d : Int) t ((N * d : Nat) : Int) ((Pn : Nat) : Int) l' ((j + 1 : Nat) : Int)) (fun r => r.2 = 0 ∧ r.1.length = c * d)) →
          ExP (weave_Unweave.l2 k ((N : Int), (K : Int), (B : Int)) (d : Int) t ((N * d : Nat) : Int) ((Pn : Nat) : Int) l (j : Int) row (n : Int)) (fun r => r.2 = 0 ∧ r.1.length = c * d) := by
        intro j hj l i
        induction i with
        | zero =>
          intro k n row h6 h7 h8 h9 hnext; obtain ⟨k, rfl, h7⟩ := dec_k h7
          rw [weave_Unweave.l2, bifF (by simp; omega), wrap1 (by omega)]
          exact ex_grd (by omega) (hnext k _ (by omega) (by simp))
        | succ i ih2 =>
          intro k n row h6 h7 h8 h9 hnext; obtain ⟨k, rfl, h7⟩ := dec_k h7
          have g1 : n * d + d ≤ N * d := by have : (n + 1) * d ≤ N * d := Nat.mul_le_mul_right _ (by omega); rw [Nat.add_mul, Nat.one_mul] at this; exact this
          have e1 : IntKind.i64.wrap (IntKind.i64.wrap ((n : Int) * (d : Int)) + (j : Int)) = ((n * d + j : Nat) : Int) := by
            rw [← Int.natCast_mul, wrapN (n := n * d) (by omega), ← Int.natCast_add, wrapN (n := n * d + j) (by omega)]
          rw [weave_Unweave.l2, bifT (by simp; omega), mn, en, ch, e1, wrap1 (by omega)]
          exact ex_grd ⟨Int.natCast_nonneg _, Int.ofNat_lt.2 (by omega)⟩ (ex_grd (by omega) (ih2 _ _ _ (by omega) (by omega) (by simpa using h8) h9 hnext))
      have l1 : ∀ (i k j : Nat) (l : List (List Int)), j + i = d → i * 75 + 60 + m * 500 < k → l.length = n * d + j → ExP (weave_Unweave.l1 k ((N : Int), (K : Int), (B : Int)) (d : Int) t ((N * d : Nat) : Int) ((Pn : Nat) : Int) l (j : Int)) (fun r => r.2 = 0 ∧ r.1.length = c * d) := by
        intro i
        induction i with
        | zero =>
          intro k j l h6 h7 h8; obtain ⟨k, rfl, h7⟩ := dec_k h7
          rw [weave_Unweave.l1, bifF (by omega), en]
          rw [Nat.zero_mul, Nat.zero_add] at h7
          have h7' : m * 500 + 50 < k := by omega
          have h8' : l.length = (n + 1) * d := by rw [h8, Nat.add_mul, Nat.one_mul]; omega
          have := ih k (n + 1) l (by omega) h7' h8'
          rw [s1] at this
          exact this
        | succ i ih2 =>
          intro k j l h6 h7 h8; obtain ⟨k, rfl, h7⟩ := dec_k h7
          rw [weave_Unweave.l1, bifT (by omega)]
          have dj : d - j = i + 1 := by omega
          have dj1 : d - (j + 1) = i := by omega
          have w2 : (i + 1) * 75 = i * 75 + 75 := by rw [Nat.add_mul]
          refine ex_grd (by simp only; omega) (l2 j (by omega) l N k 0 _ (by omega) (by rw [dj1]; omega) (by simp) (by omega) (fun k' l' h9 h10 => ?_))
          rw [dj1] at h9
          exact ih2 k' (j + 1) l' (by omega) h9 (by omega)
      rw [weave_Unweave.l0, bifT (by omega), mn, en]
      exact ex_grd (by omega) (ex_grd (by omega) (l1 d k 0 l (by omega) (by omega) (by omega)))
  unfold weave_Unweave.f
  rw [loom_ok hK hN h69 hB hd1 hd, Option.bind_some, bifNF rfl, sheaf_eq hK hN h69 hB hd1 hd, Option.bind_some, Option.bind_some]
  have hz : Int.tmod (t.length : Int) ((N * d : Nat) : Int) = 0 := by rw [ht, e0, Int.natCast_mul]; exact Int.mul_tmod_left _ _
  refine ex_grd (by omega) ?_
  rw [bifNF hz, bifF (by omega)]
  have := l0 c k 0 [] (by omega) (by omega) (by simp)
  rw [Nat.zero_mul] at this
  exact this
end
end Go.Proofs.Ythfhhnlnlcbckaa.Gw
