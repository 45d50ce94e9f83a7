/- That what the document's own functions compute comes to an end. -/
import Derived.Test.YthfhhnlnlcbckaaPl
import Derived.Test.YthfhhnlnlcbckaaQ
namespace Go.Proofs.Ythfhhnlnlcbckaa.Gw
open Go Go.RowKit
set_option linter.unusedSimpArgs false
set_option linter.unusedVariables false
/-- It comes to something that p holds of. -/
def ExP {α : Type} (x : Option α) (p : α → Prop) : Prop := ∃ r, x = some r ∧ p r
theorem ex_some {α : Type} {r : α} {p : α → Prop} (h : p r) : ExP (some r) p := ⟨r, rfl, h⟩
theorem ex_bif {α : Type} {b : Bool} {x y : Option α} {p : α → Prop} (hx : ExP x p) (hy : ExP y p) : ExP (bif b then x else y) p := by cases b <;> assumption
theorem ex_bind {α β : Type} {x : Option α} {f : α → Option β} {p : α → Prop} {q : β → Prop} (hx : ExP x p) (hf : ∀ r, p r → ExP (f r) q) : ExP (x.bind f) q := by
  obtain ⟨r, rfl, h⟩ := hx
  exact hf r h
theorem ex_grd {α : Type} {c : Prop} [Decidable c] {x : Option α} {p : α → Prop} (hc : c) (hx : ExP x p) : ExP (grd (decide c) x) p := by rw [grdT hc]; exact hx
theorem ex_mono {α : Type} {x : Option α} {p q : α → Prop} (hx : ExP x p) (h : ∀ r, p r → q r) : ExP x q := by
  obtain ⟨r, e, hr⟩ := hx
  exact ⟨r, e, h r hr⟩
abbrev Tt {α : Type} : α → Prop := fun _ => True
theorem Wide_tot (a b : Int) : ∀ (m k n : Nat) (x : Int), n + m = 8 → m < k → ExP (ref01_Wide.l0 k a b x (n : Int)) Tt := by
  intro m
  induction m with
  | zero => intro k n x h1 h2; obtain ⟨k, rfl, h2⟩ := dec_k h2; rw [ref01_Wide.l0, bifF (by omega)]; exact ex_some trivial
  | succ m ih =>
    intro k n x h1 h2; obtain ⟨k, rfl, h2⟩ := dec_k h2
    rw [ref01_Wide.l0, bifT (by omega), u64_id (x := (n : Int)) (by omega) (by omega), wrap1 (by omega)]
    exact ex_grd (by omega) (ex_bif (ex_grd (by omega) (ih _ _ _ (by omega) (by omega))) (ih _ _ _ (by omega) (by omega)))
theorem Reduce_tot : ∀ (m k : Nat) (w : Int), m ≤ 8 → m < k → ExP (ref01_Reduce.l0 k w (7 + (m : Int))) Tt := by
  intro m
  induction m with
  | zero => intro k w h1 h2; obtain ⟨k, rfl, h2⟩ := dec_k h2; rw [ref01_Reduce.l0, bifF (by omega)]; exact ex_some trivial
  | succ m ih =>
    intro k w h1 h2; obtain ⟨k, rfl, h2⟩ := dec_k h2
    have e : IntKind.i64.wrap (7 + ((m + 1 : Nat) : Int) - 1) = 7 + (m : Int) := by rw [i64_id (by omega) (by omega)]; omega
    rw [ref01_Reduce.l0, bifT (by omega), u64_id (x := 7 + ((m + 1 : Nat) : Int)) (by omega) (by omega), e, i64_id (x := 7 + ((m + 1 : Nat) : Int) - 8) (by omega) (by omega), u64_id (x := 7 + ((m + 1 : Nat) : Int) - 8) (by omega) (by omega)]
    exact ex_grd (by omega) (ex_bif (ex_grd (by omega) (ih _ _ (by omega) (by omega))) (ih _ _ (by omega) (by omega)))
theorem Mul_tot {k : Nat} (a b : Int) (hk : 20 ≤ k) : ExP (ref01_Mul.f k a b) Tt := by
  unfold ref01_Mul.f ref01_Wide.f ref01_Reduce.f
  exact ex_bind (Wide_tot a b 8 k 0 0 (by omega) (by omega)) fun w _ => ex_bind (Reduce_tot 8 k w (by omega) (by omega)) fun x _ => ex_some trivial
theorem Inv_tot (a : Int) : ∀ (m k n : Nat), n + m = 256 → m + 25 < k → ExP (ref01_Inv.l0 k a (n : Int)) Tt := by
  intro m
  induction m with
  | zero => intro k n h1 h2; obtain ⟨k, rfl, h2⟩ := dec_k h2; rw [ref01_Inv.l0, bifF (by omega)]; exact ex_some trivial
  | succ m ih =>
    intro k n h1 h2; obtain ⟨k, rfl, h2⟩ := dec_k h2
    rw [ref01_Inv.l0, bifT (by omega), wrap1 (by omega)]
    exact ex_bind (Mul_tot _ _ (by omega)) fun x _ => ex_bif (ex_some trivial) (ih _ _ (by omega) (by omega))
theorem Div1_tot {k : Nat} (a b : Int) (hk : 300 ≤ k) : ExP (ref01_Div.f k a b) Tt := by
  unfold ref01_Div.f ref01_Inv.f
  exact ex_bind (Inv_tot b 256 k 0 (by omega) (by omega)) fun x _ => ex_bind (Mul_tot _ _ (by omega)) fun x _ => ex_some trivial
theorem Pow_l0_tot (a : Int) (E : Nat) (hE : E < 1000) : ∀ (m k n : Nat) (x : Int), n + m = E → m + 25 < k → ExP (ref01_Pow.l0 k a (E : Int) x (n : Int)) Tt := by
  intro m
  induction m with
  | zero => intro k n x h1 h2; obtain ⟨k, rfl, h2⟩ := dec_k h2; rw [ref01_Pow.l0, bifF (by omega)]; exact ex_some trivial
  | succ m ih =>
    intro k n x h1 h2; obtain ⟨k, rfl, h2⟩ := dec_k h2
    rw [ref01_Pow.l0, bifT (by omega), wrap1 (by omega)]
    exact ex_bind (Mul_tot _ _ (by omega)) fun y _ => ih _ _ _ (by omega) (by omega)
theorem Pow_tot {k : Nat} (a n : Int) (hk : 400 ≤ k) : ExP (ref01_Pow.f k a n) Tt := by
  have key : ∀ E : Int, 0 ≤ E → E < 300 → ExP (ref01_Pow.j0 (ref01_Pow.l0 k) k a E) Tt := by
    intro E h0 h1
    obtain ⟨e, rfl⟩ : ∃ e : Nat, E = (e : Int) := ⟨E.toNat, by omega⟩
    exact Pow_l0_tot a e (by omega) e k 0 1 (by omega) (by omega)
  have b0 := Int.tmod_lt_of_pos n (b := 255) (by decide)
  have b1 : -255 < n.tmod 255 := by rw [Int.tmod_eq_emod]; split <;> omega
  unfold ref01_Pow.f
  refine ex_bif (ex_some trivial) (ex_bif (ex_some trivial) ?_)
  by_cases h : n.tmod 255 < 0
  · rw [bifT h, i64_id (by omega) (by omega)]; exact key _ (by omega) (by omega)
  · rw [bifF h]; exact key _ (by omega) (by omega)
/-! ### Lists of coefficients -/
theorem Deg_tot {a : List Int} (ha : a.length < 1000000) : ∀ (m k : Nat), m ≤ a.length → m < k → ExP (ref05_Deg.l0 k a ((m : Int) - 1)) (fun d => -1 ≤ d ∧ d < (a.length : Int)) := by
  intro m
  induction m with
  | zero => intro k h1 h2; obtain ⟨k, rfl, h2⟩ := dec_k h2; rw [ref05_Deg.l0, bifF (by omega)]; exact ex_some ⟨by omega, by omega⟩
  | succ m ih =>
    intro k h1 h2; obtain ⟨k, rfl, h2⟩ := dec_k h2
    have e : IntKind.i64.wrap (((m + 1 : Nat) : Int) - 1 - 1) = (m : Int) - 1 := by rw [i64_id (by omega) (by omega)]; omega
    rw [ref05_Deg.l0, bifT (by omega), e]
    exact ex_grd (by omega) (ex_bif (ex_some ⟨by omega, by omega⟩) (ih _ (by omega) (by omega)))
theorem DegF_tot {a : List Int} {k : Nat} (ha : a.length < 1000000) (hk : a.length < k) : ExP (ref05_Deg.f k a) (fun d => -1 ≤ d ∧ d < (a.length : Int)) := by
  unfold ref05_Deg.f
  rw [i64_id (by omega) (by omega)]
  exact Deg_tot ha a.length k (Nat.le_refl _) hk
theorem Norm_tot {a : List Int} {k : Nat} (ha : a.length < 1000000) (hk : a.length < k) : ExP (ref05_Norm.f k a) (fun r => r.length ≤ a.length) := by
  unfold ref05_Norm.f
  refine ex_bind (DegF_tot ha hk) fun d hd => ?_
  rw [i64_id (x := d + 1) (by omega) (by omega)]
  refine ex_grd (by omega) (ex_grd (by simp; omega) (ex_some (by simp; omega)))
theorem Coef_tot (p : List Int) (i : Int) : ExP (ref05_Coef.f p i) Tt := by
  unfold ref05_Coef.f
  by_cases h : i < 0
  · rw [bifT h]; exact ex_some trivial
  · rw [bifF h]
    by_cases h1 : (p.length : Int) ≤ i
    · rw [bifT h1]; exact ex_some trivial
    · rw [bifF h1]; exact ex_grd (by omega) (ex_some trivial)
theorem Add_tot {p q : List Int} {B : Nat} (hB : B < 100000) (hp : p.length ≤ B) (hq : q.length ≤ B) : ∀ (m k n : Nat) (l : List Int), n + m = B → m + B + 5 < k → l.length ≤ n → ExP (ref05_Add.l0 k p q l (n : Int)) (fun r => r.length ≤ B) := by
  intro m
  induction m with
  | zero =>
    intro k n l h1 h2 h3; obtain ⟨k, rfl, h2⟩ := dec_k h2
    have hm : max2 (p.length : Int) (q.length : Int) ≤ B := by unfold max2; split <;> omega
    rw [ref05_Add.l0, bifF (by omega)]
    exact ex_bind (Norm_tot (by omega) (by omega)) fun r hr => ex_some (by omega)
  | succ m ih =>
    intro k n l h1 h2 h3; obtain ⟨k, rfl, h2⟩ := dec_k h2
    rw [ref05_Add.l0, wrap1 (by omega)]
    refine ex_bif (ex_bind (Coef_tot _ _) fun x _ => ex_bind (Coef_tot _ _) fun y _ => ex_grd (by simp; omega) (ih _ _ _ (by omega) (by omega) (by simp; omega))) ?_
    exact ex_bind (Norm_tot (by omega) (by omega)) fun r hr => ex_some (by omega)
theorem AddF_tot {p q : List Int} {k B : Nat} (hB : B < 100000) (hp : p.length ≤ B) (hq : q.length ≤ B) (hk : 2 * B + 5 < k) : ExP (ref05_Add.f k p q) (fun r => r.length ≤ B) :=
  Add_tot hB hp hq B k 0 [] (by omega) (by omega) (by simp)
theorem Scale_tot {p : List Int} (a : Int) (hp : p.length < 100000) : ∀ (m k n : Nat) (l : List Int), n + m = p.length → m + p.length + 30 < k → l.length = n → ExP (ref05_Scale.l0 k a p l (n : Int)) (fun r => r.length ≤ p.length) := by
  intro m
  induction m with
  | zero =>
    intro k n l h1 h2 h3; obtain ⟨k, rfl, h2⟩ := dec_k h2
    rw [ref05_Scale.l0, bifF (by omega)]
    exact ex_bind (Norm_tot (by omega) (by omega)) fun r hr => ex_some (by omega)
  | succ m ih =>
    intro k n l h1 h2 h3; obtain ⟨k, rfl, h2⟩ := dec_k h2
    rw [ref05_Scale.l0, bifT (by omega), wrap1 (by omega)]
    exact ex_grd (by omega) (ex_bind (Mul_tot _ _ (by omega)) fun x _ => ex_grd (by simp; omega) (ih _ _ _ (by omega) (by omega) (by simp; omega)))
theorem Up_tot {p : List Int} {k n : Nat} (hp : p.length < 100000) (hn : n < 100000) (hk : n + p.length < k) : ExP (ref05_Up.f k p (n : Int)) (fun r => r.length ≤ n + p.length) := by
  unfold ref05_Up.f
  refine ex_grd (by omega) (ex_grd (by simp; omega) (ex_bind (Norm_tot (by simp; omega) (by simp; omega)) fun r hr => ex_some (by simp at hr; omega)))
theorem Mulp_tot {p q : List Int} (hp : p.length < 10000) (hq : q.length < 10000) :
    ∀ (m k n : Nat) (l : List Int), n + m = p.length → m * (q.length + 2) + (p.length + q.length) + 30 < k → l.length = p.length + q.length → ExP (ref05_Mul.l0 k p q l (n : Int)) (fun r => r.length ≤ p.length + q.length) := by
  intro m
  induction m with
  | zero =>
    intro k n l h1 h2 h3; obtain ⟨k, rfl, h2⟩ := dec_k h2
    rw [ref05_Mul.l0, bifF (by omega)]
    exact ex_bind (Norm_tot (by omega) (by omega)) fun r hr => ex_some (by omega)
  | succ m ih =>
    intro k n l h1 h2 h3; obtain ⟨k, rfl, h2⟩ := dec_k h2
    rw [ref05_Mul.l0, bifT (by omega)]
    have inner : ∀ (i k j : Nat) (l : List Int), j + i = q.length → i + 1 + m * (q.length + 2) + (p.length + q.length) + 30 < k → l.length = p.length + q.length → ExP (ref05_Mul.l1 k p q (n : Int) l (j : Int)) (fun r => r.length ≤ p.length + q.length) := by
      intro i
      induction i with
      | zero =>
        intro k j l h4 h5 h6; obtain ⟨k, rfl, h5⟩ := dec_k h5
        rw [ref05_Mul.l1, bifF (by omega), wrap1 (by omega)]
        exact ih k (n + 1) l (by omega) (by omega) h6
      | succ i ih2 =>
        intro k j l h4 h5 h6; obtain ⟨k, rfl, h5⟩ := dec_k h5
        rw [ref05_Mul.l1, bifT (by omega), i64_id (x := (n : Int) + (j : Int)) (by omega) (by omega), wrap1 (by omega)]
        exact ex_grd (by omega) (ex_grd (by omega) (ex_grd (by omega) (ex_bind (Mul_tot _ _ (by omega)) fun x _ => ex_grd (by omega) (ih2 _ _ _ (by omega) (by omega) (by simpa using h6)))))
    have e : (m + 1) * (q.length + 2) = m * (q.length + 2) + (q.length + 2) := by rw [Nat.add_mul, Nat.one_mul]
    exact inner q.length k 0 l (by omega) (by omega) h3
theorem MulpF_tot {p q : List Int} {k : Nat} (hp : p.length < 10000) (hq : q.length < 10000) (hk : p.length * (q.length + 2) + (p.length + q.length) + 30 < k) : ExP (ref05_Mul.f k p q) (fun r => r.length ≤ p.length + q.length) := by
  unfold ref05_Mul.f
  rw [i64_id (by omega) (by omega)]
  refine ex_grd (by omega) (Mulp_tot hp hq p.length k 0 _ (by omega) hk (by simp; omega))
/-! ### Division -/
theorem DivL_tot {q : List Int} {A d : Nat} (hq : q.length < 1000) (hA : A < 1000) (hd : d < q.length) : ∀ (m k n : Nat) (r u : List Int), n ≤ A → n + 1 = d + m → m + 6000 < k → r.length ≤ 2000 → u.length = A + 1 → ExP (ref06_Div.l0 k q (d : Int) r u ((n : Int))) (fun x => x.2.1.length ≤ 2000) := by
  intro m
  induction m with
  | zero =>
    intro k n r u h0 h1 h2 h3 h4; obtain ⟨k, rfl, h2⟩ := dec_k h2
    rw [ref06_Div.l0, bifF (by omega), ref06_Div.j0]
    exact ex_bind (Norm_tot (by omega) (by omega)) fun x _ => ex_some h3
  | succ m ih =>
    intro k n r u h0 h1 h2 h3 h4; obtain ⟨k, rfl, h2⟩ := dec_k h2
    have hnd : d ≤ n := by omega
    have e : (n : Int) - (d : Int) = ((n - d : Nat) : Int) := by omega
    rw [ref06_Div.l0, bifT (by omega), i64_id (x := (n : Int) - (d : Int)) (by omega) (by omega), e]
    refine ex_grd (by omega) (ex_bind (Coef_tot _ _) fun x _ => ex_bind (Div1_tot _ _ (by omega)) fun y _ => ex_grd (by omega) (ex_bind (Scale_tot y (by omega) q.length k 0 [] (by omega) (by omega) rfl) fun z hz => ex_bind (Up_tot (by omega) (by omega) (by omega)) fun v hv => ex_bind (AddF_tot (B := 2000) (by omega) (by omega) (by omega) (by omega)) fun s hs => ?_))
    cases n with
    | zero =>
      have e1 : IntKind.i64.wrap (((0 : Nat) : Int) - 1) = -1 := rfl
      rw [e1]
      obtain ⟨k, rfl, _⟩ := dec_k (k := k) (m := 5000) (by omega)
      rw [ref06_Div.l0, bifF (by omega), ref06_Div.j0]
      exact ex_bind (Norm_tot (by simp; omega) (by simp; omega)) fun x _ => ex_some hs
    | succ n =>
      have e1 : IntKind.i64.wrap (((n + 1 : Nat) : Int) - 1) = (n : Int) := by rw [i64_id (by omega) (by omega)]; omega
      rw [e1]
      exact ih k n s _ (by omega) (by omega) (by omega) hs (by simpa using h4)
theorem Mod_tot {p q : List Int} {k : Nat} (hp : p.length < 1000) (hq : q.length < 1000) (hk : 8000 < k) : ExP (ref06_Mod.f k p q) Tt := by
  unfold ref06_Mod.f ref06_Div.f
  refine ex_bind (p := Tt) ?_ fun x _ => ex_some trivial
  refine ex_bind (DegF_tot (by omega) (by omega)) fun d hd => ?_
  by_cases h : d < 0
  · rw [bifT h]; exact ex_some trivial
  · rw [bifF h, i64_id (x := (p.length : Int) + 1) (by omega) (by omega)]
    refine ex_bind (Norm_tot (by omega) (by omega)) fun r hr => ex_grd (by omega) ?_
    obtain ⟨e, rfl⟩ : ∃ e : Nat, d = (e : Int) := ⟨d.toNat, by omega⟩
    by_cases hle : e ≤ p.length + 1
    · exact ex_mono (DivL_tot (A := p.length) hq hp (by omega) (p.length + 1 - e) k p.length r _ (Nat.le_refl _) (by omega) (by omega) (by omega) (by simp)) fun _ _ => trivial
    · obtain ⟨k, rfl, _⟩ := dec_k (k := k) (m := 5000) (by omega)
      rw [ref06_Div.l0, bifF (by omega), ref06_Div.j0]
      exact ex_bind (Norm_tot (by simp; omega) (by simp; omega)) fun x _ => ex_some trivial
end Go.Proofs.Ythfhhnlnlcbckaa.Gw
