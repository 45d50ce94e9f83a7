/- The plain laws of the Noise statements NoiseTwice, NoiseNone, NoiseBurst. -/
import Derived.Test.YthfhhnlnlcbckaaPickPure
import Derived.Test.YthfhhnlnlcbckaaQf8
import Derived.Test.YthfhhnlnlcbckaaQf9
import Derived.Test.YthfhhnlnlcbckaaQf10
namespace Go.Proofs.Ythfhhnlnlcbckaa.Gw
open Go Go.RowKit
set_option linter.unusedSimpArgs false
set_option linter.unusedVariables false
/-! ### Steps -/
theorem bifT {α : Type} {p : Prop} [Decidable p] (h : p) (x y : α) : (bif decide p then x else y) = x := by simp [h]
theorem bifF {α : Type} {p : Prop} [Decidable p] (h : ¬ p) (x y : α) : (bif decide p then x else y) = y := by simp [h]
theorem bifNT {α : Type} {p : Prop} [Decidable p] (h : ¬ p) (x y : α) : (bif !decide p then x else y) = x := by simp [h]
theorem bifNF {α : Type} {p : Prop} [Decidable p] (h : p) (x y : α) : (bif !decide p then x else y) = y := by simp [h]
theorem grdT {α : Type} {p : Prop} [Decidable p] (h : p) (x : Option α) : grd (decide p) x = x := by simp [grd, h]
theorem at_nat {α : Type} {z : α} {l : List α} {n : Nat} (h : n < l.length) : at_ z l (n : Int) = l[n] := by simp [at_, List.getD, h]
theorem wrap1 {n : Nat} (h : n < 4611686018427387904) : IntKind.i64.wrap ((n : Int) + 1) = ((n + 1 : Nat) : Int) := by rw [i64_id (by omega) (by omega)]; omega
theorem dec_k {k m : Nat} (h : m < k) : ∃ k', k = k' + 1 ∧ m ≤ k' := ⟨k - 1, by omega, by omega⟩
theorem Same_refl {k : Nat} {a : List Int} (h : a.length < k) (hs : a.length < 4611686018427387904) : ref01_Same.f k a a = some true := by
  have key : ∀ (m k n : Nat), n + m = a.length → m < k → ref01_Same.l0 k a a (n : Int) = some true := by
    intro m
    induction m with
    | zero => intro k n h1 h2; obtain ⟨k, rfl, h2⟩ := dec_k h2; rw [ref01_Same.l0, bifF (by omega)]
    | succ m ih => intro k n h1 h2; obtain ⟨k, rfl, h2⟩ := dec_k h2; rw [ref01_Same.l0, bifT (by omega), grdT (by omega), grdT (by omega), bifNF rfl, wrap1 (by omega), ih k (n + 1) (by omega) (by omega)]
  unfold ref01_Same.f
  rw [bifNF rfl]
  exact key a.length k 0 (by omega) h
theorem Ints_refl {k : Nat} {a : List Int} (h : a.length < k) (hs : a.length < 4611686018427387904) : ref01_Ints.f k a a = some true := by
  have key : ∀ (m k n : Nat), n + m = a.length → m < k → ref01_Ints.l0 k a a (n : Int) = some true := by
    intro m
    induction m with
    | zero => intro k n h1 h2; obtain ⟨k, rfl, h2⟩ := dec_k h2; rw [ref01_Ints.l0, bifF (by omega)]
    | succ m ih => intro k n h1 h2; obtain ⟨k, rfl, h2⟩ := dec_k h2; rw [ref01_Ints.l0, bifT (by omega), grdT (by omega), grdT (by omega), bifNF rfl, wrap1 (by omega), ih k (n + 1) (by omega) (by omega)]
  unfold ref01_Ints.f
  rw [bifNF rfl]
  exact key a.length k 0 (by omega) h
/-! ### What Apply does -/
def fstep (S : List Int × List Int) (f : Int × Int × Bool × Bool) : List Int × List Int :=
  if 0 ≤ f.1 ∧ f.1 < (S.1.length : Int) then (if f.2.2.1 then S.1.set f.1.toNat f.2.1 else S.1, if f.2.2.2 then S.2 ++ [f.1] else S.2) else S
theorem fstep_len (S : List Int × List Int) (f : Int × Int × Bool × Bool) : (fstep S f).1.length = S.1.length := by
  unfold fstep; split
  · dsimp only; split <;> simp
  · rfl
theorem fold_len : ∀ (l : List (Int × Int × Bool × Bool)) (S : List Int × List Int), (l.foldl fstep S).1.length = S.1.length
  | [], _ => rfl
  | f :: l, S => by rw [List.foldl_cons, fold_len l, fstep_len]
theorem fstep_flags (S : List Int × List Int) (f : Int × Int × Bool × Bool) : (fstep S f).2.length ≤ S.2.length + 1 := by
  unfold fstep; split
  · dsimp only; split <;> simp
  · simp
theorem Apply_l0 {a1 : List (Int × Int × Bool × Bool)} (hs : a1.length < 1000000) : ∀ (m k n : Nat) (T M : List Int), n + m = a1.length → m < k → T.length ≤ 1000000 → M.length ≤ n →
    noise_Apply.l0 k a1 T M (n : Int) = some (((a1.drop n).foldl fstep (T, M)).1, skeys ((a1.drop n).foldl fstep (T, M)).2) := by
  intro m
  induction m with
  | zero =>
    intro k n T M h1 h2 h3 h4
    obtain ⟨k, rfl, h2⟩ := dec_k h2
    rw [noise_Apply.l0, bifF (by omega), noise_Apply.j0, grdT (by omega), List.drop_of_length_le (by omega)]; rfl
  | succ m ih =>
    intro k n T M h1 h2 h3 h4
    obtain ⟨k, rfl, h2⟩ := dec_k h2
    have hn : n < a1.length := by omega
    rw [noise_Apply.l0, bifT (by omega), grdT (by omega), at_nat hn, List.drop_eq_getElem_cons hn, List.foldl_cons]
    generalize hf : a1[n] = f
    have hf' : at_ (0, 0, false, false) a1 (n : Int) = f := by rw [at_nat hn, hf]
    have next : ∀ T' M', T'.length ≤ 1000000 → M'.length ≤ n + 1 → noise_Apply.j1 (noise_Apply.l0 k) k a1 (n : Int) T' M' = some (((a1.drop (n + 1)).foldl fstep (T', M')).1, skeys ((a1.drop (n + 1)).foldl fstep (T', M')).2) := by
      intro T' M' h5 h6
      rw [noise_Apply.j1, wrap1 (by omega)]
      exact ih k (n + 1) T' M' (by omega) (by omega) h5 h6
    have j3 : ∀ T', T'.length ≤ 1000000 → 0 ≤ f.1 → f.1 < 1000000 → noise_Apply.j3 (noise_Apply.l0 k) k a1 M (n : Int) T' = some (((a1.drop (n + 1)).foldl fstep (T', if f.2.2.2 then M ++ [f.1] else M)).1, skeys ((a1.drop (n + 1)).foldl fstep (T', if f.2.2.2 then M ++ [f.1] else M)).2) := by
      intro T' h5 h6 h7
      rw [noise_Apply.j3, hf']
      cases hb : f.2.2.2
      · rw [cond_false]; exact next _ _ h5 (by omega)
      · rw [cond_true, grdT (by omega)]
        simp only [if_true]
        exact next _ _ h5 (by simp; omega)
    by_cases h0 : 0 ≤ f.1
    · rw [bifT h0, noise_Apply.j2, hf']
      by_cases h6 : f.1 < (T.length : Int)
      · rw [bifNF h6]
        have e : fstep (T, M) f = (if f.2.2.1 then T.set f.1.toNat f.2.1 else T, if f.2.2.2 then M ++ [f.1] else M) := by unfold fstep; rw [if_pos ⟨h0, h6⟩]
        rw [e]
        cases hb : f.2.2.1
        · rw [cond_false]
          exact j3 T h3 h0 (by omega)
        · rw [cond_true, grdT ⟨h0, h6⟩]
          exact j3 _ (by simpa using h3) h0 (by omega)
      · rw [bifNT h6]
        have e : fstep (T, M) f = (T, M) := by unfold fstep; rw [if_neg (by simp only; omega)]
        rw [e]
        exact next T M h3 (by omega)
    · rw [bifF h0, noise_Apply.j2, Bool.not_false, cond_true]
      have e : fstep (T, M) f = (T, M) := by unfold fstep; rw [if_neg (by omega)]
      rw [e]
      exact next T M h3 (by omega)
theorem Apply_eq {k : Nat} {a0 : List Int} {a1 : List (Int × Int × Bool × Bool)} (h0 : a0.length ≤ 1000000) (h1 : a1.length < 1000000) (hk : a1.length < k) :
    noise_Apply.f k a0 a1 = some ((a1.foldl fstep (a0, [])).1, skeys (a1.foldl fstep (a0, [])).2) := by
  unfold noise_Apply.f slices_Clone.f
  rw [grdT (by omega)]
  have := Apply_l0 h1 a1.length k 0 a0 [] (by omega) hk h0 (Nat.zero_le _)
  simpa using this
/-! ### What is written, what is flagged -/
def wv (l : List (Int × Int × Bool × Bool)) (i : Nat) (x : Int) : Int := l.foldl (fun x f => if f.1 = (i : Int) ∧ f.2.2.1 = true then f.2.1 else x) x
theorem fold_get (i : Nat) : ∀ (l : List (Int × Int × Bool × Bool)) (S : List Int × List Int), i < S.1.length → (l.foldl fstep S).1.getD i 0 = wv l i (S.1.getD i 0)
  | [], _, _ => rfl
  | f :: l, S, h => by
    rw [List.foldl_cons, fold_get i l (fstep S f) (by rw [fstep_len]; exact h)]
    unfold wv
    rw [List.foldl_cons]
    congr 1
    unfold fstep
    by_cases h0 : 0 ≤ f.1 ∧ f.1 < (S.1.length : Int)
    · rw [if_pos h0]
      cases hw : f.2.2.1
      · simp
      · by_cases e : f.1 = (i : Int)
        · have : f.1.toNat = i := by omega
          simp [e, List.getD, h]
        · have : f.1.toNat ≠ i := by omega
          simp [e, List.getD, List.getElem?_set_ne this]
    · rw [if_neg h0, if_neg (by omega)]
theorem wv_two (i : Nat) : ∀ (l : List (Int × Int × Bool × Bool)), (∀ x y, wv l i x = wv l i y) ∨ ∀ x, wv l i x = x
  | [] => .inr fun _ => rfl
  | f :: l => by
    have e : ∀ x, wv (f :: l) i x = wv l i (if f.1 = (i : Int) ∧ f.2.2.1 = true then f.2.1 else x) := fun _ => rfl
    rcases wv_two i l with h | h
    · exact .inl fun x y => by rw [e, e]; exact h _ _
    · by_cases hf : f.1 = (i : Int) ∧ f.2.2.1 = true
      · exact .inl fun x y => by rw [e, e, if_pos hf, if_pos hf]
      · exact .inr fun x => by rw [e, if_neg hf, h]
theorem wv_again (l : List (Int × Int × Bool × Bool)) (i : Nat) (x : Int) : wv l i (wv l i x) = wv l i x := by
  rcases wv_two i l with h | h
  · exact h _ _
  · rw [h]
theorem wv_untouched (i : Nat) : ∀ (l : List (Int × Int × Bool × Bool)) (x : Int), (∀ f ∈ l, ¬ (f.1 = (i : Int) ∧ f.2.2.1 = true)) → wv l i x = x
  | [], _, _ => rfl
  | f :: l, x, h => by
    have e : wv (f :: l) i x = wv l i (if f.1 = (i : Int) ∧ f.2.2.1 = true then f.2.1 else x) := rfl
    rw [e, if_neg (h f List.mem_cons_self)]
    exact wv_untouched i l x fun g hg => h g (List.mem_cons_of_mem _ hg)
theorem fold_flags (n : Nat) : ∀ (l : List (Int × Int × Bool × Bool)) (S : List Int × List Int), S.1.length = n → (l.foldl fstep S).2 = S.2 ++ (l.filter fun f => decide (0 ≤ f.1 ∧ f.1 < (n : Int)) && f.2.2.2).map (·.1)
  | [], S, _ => by simp
  | f :: l, S, h => by
    rw [List.foldl_cons, fold_flags n l (fstep S f) (by rw [fstep_len]; exact h)]
    unfold fstep
    rw [h]
    by_cases h0 : 0 ≤ f.1 ∧ f.1 < (n : Int)
    · rw [if_pos h0]
      cases hw : f.2.2.2 <;> simp [List.filter_cons, hw, h0]
    · rw [if_neg h0]
      simp [List.filter_cons, h0]
theorem list_ext {a b : List Int} (h : a.length = b.length) (hg : ∀ i, i < a.length → a.getD i 0 = b.getD i 0) : a = b := by
  refine List.ext_getElem h fun i h1 h2 => ?_
  have := hg i h1
  simpa [List.getD, h1, h2] using this
theorem fold_app (l m : List (Int × Int × Bool × Bool)) (T M M' : List Int) : ((l ++ m).foldl fstep (T, M)).1 = (m.foldl fstep ((l.foldl fstep (T, M)).1, M')).1 := by
  refine list_ext (by rw [fold_len, fold_len, fold_len]) fun i hi => ?_
  rw [fold_len] at hi
  rw [fold_get i _ _ hi, fold_get i _ _ (by rw [fold_len]; exact hi)]
  simp only
  rw [fold_get i _ _ hi]
  unfold wv
  rw [List.foldl_append]
theorem fold_again (l : List (Int × Int × Bool × Bool)) (T M M' : List Int) : (l.foldl fstep ((l.foldl fstep (T, M)).1, M')).1 = (l.foldl fstep (T, M)).1 := by
  refine list_ext (by rw [fold_len]) fun i hi => ?_
  rw [fold_len, fold_len] at hi
  rw [fold_get i _ _ (by rw [fold_len]; exact hi), fold_get i _ _ hi]
  exact wv_again l i _
theorem fold_flags_again (l : List (Int × Int × Bool × Bool)) (T : List Int) : (l.foldl fstep ((l.foldl fstep (T, [])).1, [])).2 = (l.foldl fstep (T, [])).2 := by
  rw [fold_flags T.length l _ (by rw [fold_len]), fold_flags T.length l _ rfl]
theorem flags_in {l : List (Int × Int × Bool × Bool)} {T : List Int} {x : Int} (h : x ∈ (l.foldl fstep (T, [])).2) : 0 ≤ x ∧ x < (T.length : Int) := by
  rw [fold_flags T.length l _ rfl] at h
  simp only [List.nil_append, List.mem_map] at h
  obtain ⟨f, hf, rfl⟩ := h
  have := (List.mem_filter.1 hf).2
  rw [Bool.and_eq_true, decide_eq_true_eq] at this
  exact this.1
theorem insK_len (x : Int) : ∀ (l : List Int), (insK x l).length ≤ l.length + 1
  | [] => by simp [insK]
  | y :: ys => by
    have := insK_len x ys
    unfold insK
    split
    · simp
    · split
      · simp
      · simp; omega
theorem skeys_len (l : List Int) : (skeys l).length ≤ l.length := by
  have h : ∀ (l acc : List Int), (l.foldl (fun acc x => insK x acc) acc).length ≤ acc.length + l.length := by
    intro l
    induction l with
    | nil => intro acc; simp
    | cons x xs ih => intro acc; rw [List.foldl_cons]; have h1 := ih (insK x acc); have h2 := insK_len x acc; simp only [List.length_cons]; omega
  have := h l []
  simpa [skeys] using this
theorem known_k (k : Nat) : law23_known.f (k + 20) = some true := by kernel_rfl
theorem known_ge {k : Nat} (h : 20 ≤ k) : law23_known.f k = some true := by
  obtain ⟨j, rfl⟩ : ∃ j, k = j + 20 := ⟨k - 20, by omega⟩
  exact known_k j
/-! ### NoiseTwice -/
section
variable {a0 : List Int} {a1 : List (Int × Int × Bool × Bool)} {x19 x37 x41 : List Int × List Int}
theorem Twice_l2 (h1 : x19.1.length = a0.length) (e1 : x37.1 = x19.1) (e2 : x41 = x19) (e3 : x19.1.length ≤ 1000) (h4 : x19.2.length ≤ 1000) (hlt : x19.2.Pairwise (· < ·)) (hin : ∀ x ∈ x19.2, 0 ≤ x ∧ x < (a0.length : Int)) :
    ∀ (m k n : Nat), n + m = x19.2.length → m + 2000 < k → law23_NoiseTwice.l2 k a0 x19 x37 x41 (n : Int) = some true := by
  intro m
  induction m with
  | zero =>
    intro k n h5 h6
    obtain ⟨k, rfl, h6⟩ := dec_k h6
    rw [law23_NoiseTwice.l2, bifF (by omega), law23_NoiseTwice.j3, known_ge (by omega), e1, e2, List.nil_append]
    simp only [Option.bind_some, cond_true, Same_refl (by omega : x19.1.length < k) (by omega), Ints_refl (by omega : x19.2.length < k) (by omega), Same_refl (by omega : a0.length < k) (by omega)]
  | succ m ih =>
    intro k n h5 h6
    obtain ⟨k, rfl, h6⟩ := dec_k h6
    have hn : n < x19.2.length := by omega
    have hi := hin _ (List.getElem_mem hn)
    rw [law23_NoiseTwice.l2, bifT (by omega), grdT (by omega), at_nat hn, bifF (by omega), grdT (by omega), bifF (by omega)]
    cases n with
    | zero =>
      rw [bifF (by omega), wrap1 (by omega)]
      exact ih k 1 (by omega) (by omega)
    | succ n =>
      have e : IntKind.i64.wrap (((n + 1 : Nat) : Int) - 1) = (n : Int) := by rw [i64_id (by omega) (by omega)]; omega
      have hp := (List.pairwise_iff_getElem.1 hlt) n (n + 1) (by omega) hn (by omega)
      rw [bifT (by omega), e, grdT (by omega), grdT (by omega), at_nat (by omega : n < x19.2.length), bifF (by omega), wrap1 (by omega)]
      exact ih k (n + 1 + 1) (by omega) (by omega)
/-- Is a place written? -/
def touched (a1 : List (Int × Int × Bool × Bool)) (i : Int) : Bool := a1.any fun f => decide (f.1 = i) && f.2.2.1
theorem Twice_l1 (h40 : a1.length ≤ 40) (i : Int) : ∀ (m k n : Nat) (b : Bool), n + m = a1.length → m < k →
    ∃ k', k ≤ k' + m + 1 ∧ law23_NoiseTwice.l1 k a0 a1 x19 x37 x41 i b (n : Int) = law23_NoiseTwice.j2 (law23_NoiseTwice.l0 k') k' a0 a1 x19 x37 x41 i (b || touched (a1.drop n) i) := by
  intro m
  induction m with
  | zero =>
    intro k n b h1 h2
    obtain ⟨k, rfl, h2⟩ := dec_k h2
    refine ⟨k, by omega, ?_⟩
    rw [law23_NoiseTwice.l1, bifF (by omega), List.drop_of_length_le (by omega)]
    simp [touched]
  | succ m ih =>
    intro k n b h1 h2
    obtain ⟨k, rfl, h2⟩ := dec_k h2
    have hn : n < a1.length := by omega
    have e : touched (a1.drop n) i = (decide (a1[n].1 = i) && a1[n].2.2.1 || touched (a1.drop (n + 1)) i) := by rw [List.drop_eq_getElem_cons hn]; rfl
    rw [law23_NoiseTwice.l1, bifT (by omega), e]
    cases b with
    | true =>
      rw [cond_true, wrap1 (by omega)]
      obtain ⟨k', h3, h4⟩ := ih k (n + 1) true (by omega) (by omega)
      exact ⟨k', by omega, by rw [h4]; rfl⟩
    | false =>
      rw [cond_false, grdT (by omega), at_nat hn, wrap1 (by omega)]
      by_cases hi : a1[n].1 = i
      · rw [bifT hi, grdT (by omega)]
        obtain ⟨k', h3, h4⟩ := ih k (n + 1) a1[n].2.2.1 (by omega) (by omega)
        exact ⟨k', by omega, by rw [h4]; simp [hi]⟩
      · rw [bifF hi]
        obtain ⟨k', h3, h4⟩ := ih k (n + 1) false (by omega) (by omega)
        exact ⟨k', by omega, by rw [h4]; simp [hi]⟩
theorem Twice_l0 (h40 : a1.length ≤ 40) (h200 : a0.length ≤ 200) (h1 : x19.1.length = a0.length) (hu : ∀ i, i < a0.length → touched a1 (i : Int) = false → x19.1.getD i 0 = a0.getD i 0)
    (hl2 : ∀ k, 5000 ≤ k → law23_NoiseTwice.l2 k a0 x19 x37 x41 0 = some true) :
    ∀ (m k n : Nat), n + m = a0.length → m * 50 + 6000 < k → law23_NoiseTwice.l0 k a0 a1 x19 x37 x41 (n : Int) = some true := by
  intro m
  induction m with
  | zero =>
    intro k n h5 h6
    obtain ⟨k, rfl, h6⟩ := dec_k h6
    rw [law23_NoiseTwice.l0, bifF (by omega), law23_NoiseTwice.j1]
    exact hl2 k (by omega)
  | succ m ih =>
    intro k n h5 h6
    obtain ⟨k, rfl, h6⟩ := dec_k h6
    have hn : n < a0.length := by omega
    rw [law23_NoiseTwice.l0, bifT (by omega)]
    obtain ⟨k', h7, h8⟩ := Twice_l1 (a0 := a0) (x19 := x19) (x37 := x37) (x41 := x41) h40 (n : Int) a1.length k 0 false (by omega) (by omega)
    have h8' : law23_NoiseTwice.l1 k a0 a1 x19 x37 x41 (n : Int) false 0 = _ := h8
    rw [h8', List.drop_zero, Bool.false_or, law23_NoiseTwice.j2, wrap1 (by omega)]
    have hx := ih k' (n + 1) (by omega) (by omega)
    cases ht : touched a1 (n : Int)
    · rw [Bool.not_false, cond_true, grdT (by omega), grdT (by omega)]
      have := hu n hn ht
      have h1n : n < x19.1.length := by omega
      rw [at_nat hn, at_nat h1n, bifNF (by simpa [List.getD, hn, h1n] using this)]
      exact hx
    · rw [Bool.not_true, cond_false]; exact hx
end
theorem Twice_eq {a0 : List Int} {a1 : List (Int × Int × Bool × Bool)} {a2 : Int} (hb : 0 ≤ a2 ∧ a2 ≤ 255) : law23_NoiseTwice.f 100000 a0 a1 a2 = some true := by
  unfold law23_NoiseTwice.f
  by_cases h200 : 200 < (a0.length : Int)
  · rw [bifT h200, law23_NoiseTwice.j0, cond_true, known_ge (by omega)]; rfl
  · rw [bifF h200, law23_NoiseTwice.j0]
    by_cases h40 : 40 < (a1.length : Int)
    · rw [bifT h40, known_ge (by omega)]; rfl
    · rw [bifF h40, List.nil_append]
      have w1 : IntKind.i64.wrap ((a1.length : Int) + 1) = ((a1.length + 1 : Nat) : Int) := wrap1 (by omega)
      rw [w1, i64_id (x := a2) (by omega) (by omega), Int.tmod_eq_emod_of_nonneg hb.1]
      have m0 := Int.emod_nonneg a2 (b := ((a1.length + 1 : Nat) : Int)) (by omega)
      have m1 := Int.emod_lt_of_pos a2 (b := ((a1.length + 1 : Nat) : Int)) (by omega)
      generalize hk : a2 % ((a1.length + 1 : Nat) : Int) = kk at m0 m1
      simp only [List.drop_zero, List.take_length]
      rw [grdT (by simp; omega), grdT (by omega), Apply_eq (by omega) (by omega) (by omega), Option.bind_some, grdT (by omega), Apply_eq (by omega) (by simp; omega) (by simp; omega), Option.bind_some, grdT (by omega), Apply_eq (by simp only; rw [fold_len]; simp only; omega) (by simp; omega) (by simp; omega), Option.bind_some,
        Apply_eq (by simp only; rw [fold_len]; simp only; omega) (by omega) (by omega), Option.bind_some]
      have hlen : (a1.foldl fstep (a0, [])).1.length = a0.length := fold_len _ _
      rw [bifNF (by simp only; omega)]
      have e1 : (List.foldl fstep ((List.foldl fstep (a0, []) (a1.take kk.toNat)).1, []) (a1.drop kk.toNat)).1 = (a1.foldl fstep (a0, [])).1 := by
        rw [← fold_app _ _ _ [] []]
        rw [List.take_append_drop]
      have hfl := fold_flags a0.length a1 (a0, []) rfl
      have hfb : (skeys (a1.foldl fstep (a0, [])).2).length ≤ 1000 := by
        have h5 := skeys_len (a1.foldl fstep (a0, [])).2
        rw [hfl] at h5 ⊢
        have h6 := List.length_filter_le (fun f => decide (0 ≤ f.1 ∧ f.1 < ((a0.length : Nat) : Int)) && f.2.2.2) a1
        simp only [List.nil_append, List.length_map] at h5 ⊢
        omega
      refine Twice_l0 (by omega) (by omega) (by simp only; exact hlen) ?_ ?_ a0.length 100000 0 (by omega) (by omega)
      · intro i hi ht
        simp only
        rw [fold_get i a1 (a0, []) hi]
        refine wv_untouched i a1 _ fun f hf hc => ?_
        have : touched a1 (i : Int) = true := List.any_eq_true.2 ⟨f, hf, by simp [hc.1, hc.2]⟩
        rw [this] at ht; cases ht
      · intro k hk'
        refine Twice_l2 (by simp only; exact hlen) (by simp only; exact e1) ?_ (by simp only; omega) hfb (skeys_lt _) (fun x hx => flags_in (mem_skeys.1 hx)) (skeys (a1.foldl fstep (a0, [])).2).length k 0 (Nat.zero_add _) (by omega)
        rw [fold_again, fold_flags_again]
/-! ### NoiseNone -/
def farOf (n : Nat) (f : Int × Int × Bool × Bool) : Int × Int × Bool × Bool := if 0 ≤ f.1 ∧ f.1 < (n : Int) then (f.1, f.2.1, false, false) else (f.1, f.2.1, f.2.2.1, f.2.2.2)
theorem fold_far (T : List Int) : ∀ (l : List (Int × Int × Bool × Bool)), (∀ f ∈ l, ∃ g, f = farOf T.length g) → l.foldl fstep (T, []) = (T, [])
  | [], _ => rfl
  | f :: l, h => by
    obtain ⟨g, rfl⟩ := h f List.mem_cons_self
    have e : fstep (T, []) (farOf T.length g) = (T, []) := by
      unfold fstep farOf
      by_cases h0 : 0 ≤ g.1 ∧ g.1 < (T.length : Int)
      · rw [if_pos h0]; simp
      · rw [if_neg h0, if_neg h0]
    rw [List.foldl_cons, e]
    exact fold_far T l fun f hf => h f (List.mem_cons_of_mem _ hf)
theorem Small_cases {n k b : Int} (n0 : 0 ≤ n) (n1 : n ≤ 255) (k0 : 0 ≤ k) (k1 : k ≤ 255) (b0 : 0 ≤ b) (b1 : b ≤ 255) : ∃ N K B, law18_Small.f n k b = some (N, K, B) ∧ 1 ≤ K ∧ K < N ∧ 2 ≤ N ∧ N ≤ 69 ∧ 0 ≤ B ∧ B < 255 := by
  obtain ⟨N, K, B, h, r⟩ := Code_cases (n := n.tmod 31) (by rw [Int.tmod_eq_emod_of_nonneg n0]; omega) (by rw [Int.tmod_eq_emod_of_nonneg n0]; omega) k0 k1 b0 b1
  exact ⟨N, K, B, by unfold law18_Small.f; rw [h]; rfl, r⟩
theorem Space_ok {N K B : Int} (h1 : 1 ≤ K) (h2 : K < N) (h3 : N ≤ 255) (h4 : 0 ≤ B) (h5 : B < 255) : code_Space.f (N, K, B) = some (N - K) := by
  unfold code_Space.f
  rw [Right_ok h1 h2 h3 h4 h5, Option.bind_some, bifNF rfl, i64_id (x := N - K) (by omega) (by omega)]
theorem Bears_nil {k : Nat} {N K B : Int} (hk : 1 < k) (h1 : 1 ≤ K) (h2 : K < N) (h3 : N ≤ 255) (h4 : 0 ≤ B) (h5 : B < 255) : noise_Bears.f k (N, K, B) [] = some true := by
  obtain ⟨k, rfl, _⟩ := dec_k hk
  unfold noise_Bears.f
  rw [Space_ok h1 h2 h3 h4 h5, Option.bind_some, bifT (by omega), noise_Bears.l0]; rfl
theorem Bears_bad {k : Nat} {N B : Int} : noise_Bears.f k (N, 0, B) [] = some false := by
  unfold noise_Bears.f code_Space.f code_Right.f; rfl
theorem Bears_one {k : Nat} {N K B : Int} (hk : 1 < k) (h1 : 1 ≤ K) (h2 : K < N) (h3 : N ≤ 255) (h4 : 0 ≤ B) (h5 : B < 255) : noise_Bears.f k (N, K, B) [[0]] = some false := by
  obtain ⟨k, rfl, _⟩ := dec_k hk
  unfold noise_Bears.f
  rw [Space_ok h1 h2 h3 h4 h5, Option.bind_some, bifT (by omega), noise_Bears.l0]; rfl
theorem Bears_two {k : Nat} {N K B x : Int} (hk : 2 < k) (h1 : 1 ≤ K) (h2 : K < N) (h3 : N ≤ 255) (h4 : 0 ≤ B) (h5 : B < 255) (h6 : 0 ≤ x) (h7 : x ≤ 300) : noise_Bears.f k (N, K, B) [[0, x]] = some (decide (x ≤ N - K)) := by
  obtain ⟨k, rfl, hk2⟩ := dec_k hk
  obtain ⟨k, rfl, _⟩ := dec_k (m := 1) hk2
  have e0 : at_ [] [[0, x]] 0 = [0, x] := rfl
  have e1 : at_ 0 [0, x] 0 = 0 := rfl
  have e2 : at_ 0 [0, x] 1 = x := rfl
  have w0 : IntKind.i64.wrap 0 = 0 := rfl
  unfold noise_Bears.f
  rw [Space_ok h1 h2 h3 h4 h5, Option.bind_some, bifT (by omega), noise_Bears.l0]
  rw [bifT (by simp), grdT (by simp), e0, bifNF (by simp), grdT (by simp), grdT (by simp), e1, e2, min2, if_neg (by omega), bifF (by omega), grdT (by simp), grdT (by simp), max2]
  have hm : (if (0 : Int) < x then x else 0) = x := by split <;> omega
  rw [hm, show (2 : Int) * 0 = 0 from rfl, w0, Int.zero_add, i64_id (x := x) (by omega) (by omega)]
  by_cases hx : x ≤ N - K
  · rw [bifF (by omega), grdT (by simp), grdT (by simp), noise_Bears.j1, bifF (by omega)]
    rw [show IntKind.i64.wrap (0 + 1) = 1 from rfl, noise_Bears.l0, bifF (by simp)]
    simp [noise_Bears.j0, hx]
  · rw [bifT (by omega), noise_Bears.j1]
    simp [noise_Bears.j0, hx]
theorem None_l0 {a0 : List Int} {a1 : List (Int × Int × Bool × Bool)} {a2 a3 a4 : Int} (h0 : a0.length ≤ 200) (h1 : a1.length ≤ 40) (hb2 : 0 ≤ a2 ∧ a2 ≤ 255) (hb3 : 0 ≤ a3 ∧ a3 ≤ 255) (hb4 : 0 ≤ a4 ∧ a4 ≤ 255) :
    ∀ (m k n : Nat) (F : List (Int × Int × Bool × Bool)), n + m = a1.length → m + 500 < k → F.length = n → (∀ f ∈ F, ∃ g, f = farOf a0.length g) → law23_NoiseNone.l0 k a0 a1 a2 a3 a4 F (n : Int) = some true := by
  have l1 : ∀ (m k n : Nat), n + m = a0.length → m + 100 < k → law23_NoiseNone.l1 k a0 a2 a3 a4 (a0, []) true (n : Int) = some true := by
    intro m
    induction m with
    | zero =>
      intro k n h2 h3
      obtain ⟨k, rfl, h3⟩ := dec_k h3
      rw [law23_NoiseNone.l1, bifF (by simp only; omega), law23_NoiseNone.j2]
      obtain ⟨N, K, B, e, c1, c2, c3, c4, c5, c6⟩ := Small_cases hb2.1 hb2.2 hb3.1 hb3.2 hb4.1 hb4.2
      rw [e, known_ge (by omega)]
      simp only [Option.bind_some]
      rw [i64_id (x := N - K) (by omega) (by omega), i64_id (x := N - K + 1) (by omega) (by omega), Bears_nil (by omega) c1 c2 (by omega) c5 c6, Bears_bad, Bears_one (by omega) c1 c2 (by omega) c5 c6, Bears_two (by omega) c1 c2 (by omega) c5 c6 (by omega) (by omega), Bears_two (by omega) c1 c2 (by omega) c5 c6 (by omega) (by omega)]
      have : ¬ (N - K + 1 ≤ N - K) := by omega
      simp [this]
    | succ m ih =>
      intro k n h2 h3
      obtain ⟨k, rfl, h3⟩ := dec_k h3
      rw [law23_NoiseNone.l1, bifT (by simp only; omega), cond_true, grdT (by simp only; omega), grdT (by omega), wrap1 (by omega)]
      have : decide (at_ 0 (a0, ([] : List Int)).1 (n : Int) = at_ 0 a0 (n : Int)) = true := decide_eq_true rfl
      rw [this]
      exact ih k (n + 1) (by omega) (by omega)
  intro m
  induction m with
  | zero =>
    intro k n F h2 h3 h4 h5
    obtain ⟨k, rfl, h3⟩ := dec_k h3
    rw [law23_NoiseNone.l0, bifF (by omega), law23_NoiseNone.j1, Apply_eq (by omega) (by omega) (by omega), fold_far a0 F h5, Option.bind_some]
    have : decide (((a0, ([] : List Int)).1.length : Int) = (a0.length : Int)) = true := decide_eq_true rfl
    simp only [decide_true]
    exact l1 a0.length k 0 (by omega) (by omega)
  | succ m ih =>
    intro k n F h2 h3 h4 h5
    obtain ⟨k, rfl, h3⟩ := dec_k h3
    have hn : n < a1.length := by omega
    rw [law23_NoiseNone.l0, bifT (by omega), grdT (by omega), at_nat hn, wrap1 (by omega)]
    have go : ∀ f, f = farOf a0.length a1[n] → law23_NoiseNone.l0 k a0 a1 a2 a3 a4 (F ++ [f]) ((n + 1 : Nat) : Int) = some true := by
      intro f hf
      refine ih k (n + 1) (F ++ [f]) (by omega) (by omega) (by simp [h4]) (fun g hg => ?_)
      rcases List.mem_append.1 hg with h | h
      · exact h5 g h
      · exact ⟨a1[n], by rw [List.mem_singleton.1 h, hf]⟩
    have gl : ∀ f : Int × Int × Bool × Bool, (F.length + [f].length) * 16 ≤ 140737488355328 := by intro f; simp; omega
    by_cases c0 : 0 ≤ a1[n].1
    · rw [bifT c0]
      by_cases c1 : a1[n].1 < (a0.length : Int)
      · rw [bifT c1, grdT (gl _)]
        exact go _ (by unfold farOf; rw [if_pos ⟨c0, c1⟩])
      · rw [bifF c1, grdT (gl _)]
        exact go _ (by unfold farOf; rw [if_neg (by omega)])
    · rw [bifF c0, grdT (gl _)]
      exact go _ (by unfold farOf; rw [if_neg (by omega)])
theorem None_eq {a0 : List Int} {a1 : List (Int × Int × Bool × Bool)} {a2 a3 a4 : Int} (hb2 : 0 ≤ a2 ∧ a2 ≤ 255) (hb3 : 0 ≤ a3 ∧ a3 ≤ 255) (hb4 : 0 ≤ a4 ∧ a4 ≤ 255) : law23_NoiseNone.f 1000 a0 a1 a2 a3 a4 = some true := by
  unfold law23_NoiseNone.f
  by_cases h200 : 200 < (a0.length : Int)
  · rw [bifT h200, law23_NoiseNone.j0, cond_true, known_ge (by omega)]; rfl
  · rw [bifF h200, law23_NoiseNone.j0]
    by_cases h40 : 40 < (a1.length : Int)
    · rw [bifT h40, known_ge (by omega)]; rfl
    · rw [bifF h40]
      exact None_l0 (by omega) (by omega) hb2 hb3 hb4 a1.length 1000 0 [] (by omega) (by omega) rfl (by simp)
/-! ### NoiseBurst -/
def burst (s : Nat) : Nat → List Int → List (Int × Int × Bool × Bool)
  | _, [] => []
  | n, x :: b => ((s : Int) + (n : Int), x, true, false) :: burst s (n + 1) b
theorem burst_len (s : Nat) : ∀ (n : Nat) (b : List Int), (burst s n b).length = b.length
  | _, [] => rfl
  | n, x :: b => by rw [burst, List.length_cons, burst_len s (n + 1) b]; rfl
theorem Burst_eq {k s : Nat} {b : List Int} (hs : s ≤ 1000) (hb : b.length ≤ 300) (hk : b.length < k) : noise_Burst.f k (s : Int) b = some (burst s 0 b) := by
  have key : ∀ (m k n : Nat) (P : List (Int × Int × Bool × Bool)), n + m = b.length → m < k → P.length = n → noise_Burst.l0 k (s : Int) b (P ++ List.replicate m (0, 0, false, false)) (n : Int) = some (P ++ burst s n (b.drop n)) := by
    intro m
    induction m with
    | zero =>
      intro k n P h1 h2 h3
      obtain ⟨k, rfl, h2⟩ := dec_k h2
      rw [noise_Burst.l0, bifF (by omega), List.drop_of_length_le (by omega)]; rfl
    | succ m ih =>
      intro k n P h1 h2 h3
      obtain ⟨k, rfl, h2⟩ := dec_k h2
      have hn : n < b.length := by omega
      rw [noise_Burst.l0, bifT (by omega), grdT (by omega), grdT (by simp; omega), at_nat hn, wrap1 (by omega), i64_id (x := (s : Int) + (n : Int)) (by omega) (by omega), List.drop_eq_getElem_cons hn, burst]
      have e : (P ++ List.replicate (m + 1) ((0, 0, false, false) : Int × Int × Bool × Bool)).set ((n : Int)).toNat ((s : Int) + (n : Int), b[n], true, false) = (P ++ [((s : Int) + (n : Int), b[n], true, false)]) ++ List.replicate m (0, 0, false, false) := by
        rw [List.replicate_succ, Int.toNat_natCast, List.set_append_right _ _ (by omega), h3, Nat.sub_self, List.set_cons_zero, List.append_assoc]; rfl
      rw [e, ih k (n + 1) _ (by omega) (by omega) (by simp [h3]), List.append_assoc]; rfl
  unfold noise_Burst.f
  rw [bifF (by omega), grdT (by omega), Int.toNat_natCast]
  have := key b.length k 0 [] (by omega) hk rfl
  simpa using this
theorem wv_burst (s i : Nat) (x : Int) : ∀ (n : Nat) (b : List Int), wv (burst s n b) i x = if s + n ≤ i ∧ i < s + n + b.length then b.getD (i - (s + n)) 0 else x := by
  intro n b
  induction b generalizing n x with
  | nil => rw [if_neg (by simp only [List.length_nil]; omega)]; rfl
  | cons y b ih =>
    have e : wv (burst s n (y :: b)) i x = wv (burst s (n + 1) b) i (if ((s : Int) + (n : Int)) = (i : Int) ∧ true = true then y else x) := rfl
    rw [e, ih]
    simp only [List.length_cons]
    by_cases h : s + n = i
    · have e1 : i - (s + n) = 0 := by omega
      rw [if_neg (by omega), if_pos ⟨by omega, trivial⟩, if_pos (by omega), e1]; rfl
    · have h' : ¬ (((s : Int) + (n : Int)) = (i : Int) ∧ True) := by omega
      rw [if_neg h']
      by_cases h2 : s + n ≤ i ∧ i < s + n + (b.length + 1)
      · have e1 : i - (s + n) = (i - (s + (n + 1))) + 1 := by omega
        rw [if_pos (by omega), if_pos h2, e1, List.getD_cons_succ]
      · rw [if_neg (by omega), if_neg h2]
theorem burst_flags (n s : Nat) : ∀ (k : Nat) (b : List Int), ((burst s k b).filter fun f => decide (0 ≤ f.1 ∧ f.1 < (n : Int)) && f.2.2.2) = []
  | _, [] => rfl
  | k, x :: b => by rw [burst, List.filter_cons, if_neg (by simp), burst_flags n s (k + 1) b]
theorem Burst_l0 {a0 a1 : List Int} {s : Nat} {T : List Int} (hs : s ≤ 255) (hl : a0.length + a1.length ≤ 300) (hT : T.length = a0.length) (hv : ∀ i, i < a0.length → T.getD i 0 = if s ≤ i ∧ i < s + a1.length then a1.getD (i - s) 0 else a0.getD i 0) :
    ∀ (m k n : Nat), n + m = a0.length → m + 30 < k → law23_NoiseBurst.l0 k a0 a1 (s : Int) (T, []) (n : Int) = some true := by
  intro m
  induction m with
  | zero =>
    intro k n h1 h2
    obtain ⟨k, rfl, h2⟩ := dec_k h2
    rw [law23_NoiseBurst.l0, bifF (by omega), law23_NoiseBurst.j0, known_ge (by omega)]; rfl
  | succ m ih =>
    intro k n h1 h2
    obtain ⟨k, rfl, h2⟩ := dec_k h2
    have hn : n < a0.length := by omega
    have hnT : n < T.length := by omega
    have hv' := hv n hn
    have hx := ih k (n + 1) (by omega) (by omega)
    have eT : T.getD n 0 = T[n] := by simp [List.getD, hnT]
    have e0 : a0.getD n 0 = a0[n] := by simp [List.getD, hn]
    rw [eT, e0] at hv'
    rw [law23_NoiseBurst.l0, bifT (by omega), grdT (by omega), i64_id (x := (s : Int)) (by omega) (by omega), i64_id (x := (s : Int) + (a1.length : Int)) (by omega) (by omega), at_nat hn, at_nat hnT, wrap1 (by omega), i64_id (x := (n : Int) - (s : Int)) (by omega) (by omega)]
    by_cases c0 : s ≤ n
    · rw [bifT (by omega)]
      by_cases c1 : n < s + a1.length
      · have e1 : (n : Int) - (s : Int) = ((n - s : Nat) : Int) := by omega
        have hns : n - s < a1.length := by omega
        have e2 : a1.getD (n - s) 0 = a1[n - s] := by simp [List.getD, hns]
        rw [if_pos ⟨c0, c1⟩, e2] at hv'
        rw [bifT (by omega), grdT (by omega), grdT (by simp only; omega), e1, at_nat hns, bifNF hv']
        exact hx
      · rw [if_neg (by omega)] at hv'
        rw [bifF (by omega), grdT (by simp only; omega), bifNF hv']
        exact hx
    · rw [if_neg (by omega)] at hv'
      rw [bifF (by omega), grdT (by simp only; omega), bifNF hv']
      exact hx
theorem Burst_law {a0 a1 : List Int} {a2 : Int} (hl0 : a0.length ≤ maxLen) (hl1 : a1.length ≤ 4611686018427387904) (hl2 : a0.length ≤ 4611686018427387903) (hb : 0 ≤ a2 ∧ a2 ≤ 255) : law23_NoiseBurst.f 1000 a0 a1 a2 = some true := by
  unfold law23_NoiseBurst.f
  rw [i64_id (x := (a0.length : Int) + (a1.length : Int)) (by omega) (by omega)]
  by_cases h300 : 300 < (a0.length : Int) + (a1.length : Int)
  · rw [bifT h300, known_ge (by omega)]; rfl
  · obtain ⟨s, rfl⟩ : ∃ s : Nat, a2 = (s : Int) := ⟨a2.toNat, by omega⟩
    rw [bifF h300, i64_id (x := (s : Int)) (by omega) (by omega), Burst_eq (by omega) (by omega) (by omega), Option.bind_some, Apply_eq (by omega) (by rw [burst_len]; omega) (by rw [burst_len]; omega), Option.bind_some]
    have hf := fold_flags a0.length (burst s 0 a1) (a0, []) rfl
    rw [burst_flags] at hf
    rw [hf, bifNF (by simp only; rw [fold_len]), bifNF (by rw [burst_len])]
    refine Burst_l0 (a0 := a0) (a1 := a1) (s := s) (by omega) (by omega) (fold_len _ _) (fun i hi => ?_) a0.length 1000 0 (by omega) (by omega)
    rw [fold_get i _ _ hi, wv_burst]
    simp only [Nat.add_zero]
end Go.Proofs.Ythfhhnlnlcbckaa.Gw
