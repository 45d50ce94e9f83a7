/- Slices: made, written, cut. -/
import Derived.Test.YthfhhnlnlcbckaaGr
namespace Go.Proofs.Ythfhhnlnlcbckaa.Gw
open Go Go.RowKit
set_option linter.unusedSimpArgs false
set_option linter.unusedVariables false

theorem rep_all {α : Type} (e : Enc α) (z0 : α) (z : Value) (hs : 0 < e.sz) (hz : z.cells.toList = e.en z0) : ∀ n, (madeCells z.cells (n * e.sz)).toList = e.all (List.replicate n z0)
  | 0 => by simp [madeCells, Enc.all]
  | n + 1 => by
    apply List.ext_getElem?
    intro j
    have hsz : z.cells.size = e.sz := by rw [← Array.length_toList, hz, e.len]
    by_cases hj : j < (n + 1) * e.sz
    · have hd : j / e.sz < n + 1 := (Nat.div_lt_iff_lt_mul hs).2 hj
      have hm : j % e.sz < e.sz := Nat.mod_lt _ hs
      have h1 : (List.replicate (n + 1) z0)[j / e.sz]? = some z0 := by rw [List.getElem?_replicate, if_pos hd]
      have h2 : (e.en z0)[j % e.sz]? = some ((e.en z0)[j % e.sz]'(by rw [e.len]; exact hm)) := List.getElem?_eq_getElem _
      have h3 := e.all_get _ h1 h2
      rw [show j / e.sz * e.sz + j % e.sz = j from Nat.div_add_mod' j e.sz] at h3
      rw [h3]
      have h4 : z.cells[j % e.sz]! = (e.en z0)[j % e.sz]'(by rw [e.len]; exact hm) := by
        rw [getElem!_pos z.cells (j % e.sz) (by rw [hsz]; exact hm)]
        simp only [← hz]
        simp
      simp [madeCells, hj, hsz, h4]
    · rw [List.getElem?_eq_none (by simp [madeCells]; omega), List.getElem?_eq_none (by rw [e.all_len]; simp; omega)]

section
variable {P : Program} {ρ : Option Nat} {N : Nat} {t : Fr} {w w0 : World} {X : Nat → Prop} {L : List Rs} {R : Value → World → Prop} {d : Option Nat} {ty T T' : TypeId} {ps : String} {af : Array Edge} {g : Option (Nat × Bool)} {x y z : Operand} {k : IntKind} {α : Type}
theorem y_make {e : Enc α} {E by_ : Nat} {zz : Value} {z0 : α} {n c : Int} (hT : Sl P T E e.sz by_ zz) (hz : zz.cells.toList = e.en z0) (H : St X w0 w L) (hx : ev t x = .int .i64 n) (hy : ev t y = .int .i64 c) (h0 : 0 ≤ n) (h1 : n ≤ c)
    (hb : (by_ : Int) * c ≤ 281474976710656) (h63 : c ≤ 9223372036854775807)
    (h : ∀ v w', St X w0 w' (L ++ [.own e E v (List.replicate n.toNat z0)]) → R v w') : Yd P ρ N ⟨d, .makeSlice T x y, ty, ps, af, g⟩ t w R := by
  obtain ⟨t1, i, t2, t3, t4, t5, t6, t7⟩ := hT
  have hr := run_make (P := P) w T E i zz t1 t2 t5 .i64 .i64 n c h0 h1 (by rw [t4]; exact hb) h63
  rw [t3] at hr
  refine y_val (v := .slice (some ⟨w.heap.size, 0, none⟩) n.toNat c.toNat) (w' := w.alloc (.cells (madeCells zz.cells (c.toNat * e.sz)) E)) (by simp only [execOp, hx, hy, Sem.run_bind, hr]; rfl) (h _ _ (H.new (.alloc _ _ _) ?_ ?_))
  · refine ⟨e.all_len _, .inr ⟨w.heap.size, c.toNat, madeCells zz.cells (c.toNat * e.sz), by simp, Nat.zero_le _, ?_, by simp; omega, by unfold maxLen; omega, by rw [size_madeCells], ?_⟩⟩
    · show (w.heap.push _)[w.heap.size]? = _
      simp
    · rw [rep_all e z0 zz t7 hz]
      rw [List.length_replicate]
      have : e.all (List.replicate c.toNat z0) = e.all (List.replicate n.toNat z0) ++ e.all (List.replicate (c.toNat - n.toNat) z0) := by
        rw [← e.all_app, List.replicate_append_replicate]; congr 1; congr 1; omega
      rw [this, List.take_left' (by rw [e.all_len]; simp)]
  · intro b hb
    have : (Value.slice (some ⟨w.heap.size, 0, none⟩) n.toNat c.toNat).ownBlock = some b := hb
    cases this; exact Nat.le_refl _
/-- A list that is written out. -/
theorem y_bs {e : Enc α} {E by_ n : Nat} {zz : Value} {parts : Array (Nat × Operand)} {l : List α} (hT : Sl P T E e.sz by_ zz) (H : St X w0 w L) (hn : l.length = n) (hle : n * e.sz ≤ 16777216)
    (hf : Instr.fill (fun i => some (i * e.sz, e.sz)) ((Array.range (n * e.sz)).map (zz.cells[· % zz.cells.size]!)) (parts.map fun (i, x) => (i, ev t x)).toList = some (e.all l).toArray) (hn0 : 0 < n)
    (h : ∀ v w', St X w0 w' (L ++ [.own e E v l]) → R v w') : Yd P ρ N ⟨d, .buildSlice T n parts, ty, ps, af, g⟩ t w R := by
  obtain ⟨t1, i, t2, t3, t4, t5, t6, t7⟩ := hT
  have hne : ¬ (n * e.sz = 0) := by
    intro h0; rcases Nat.mul_eq_zero.1 h0 with h0 | h0 <;> omega
  have hrun : (Instr.buildSlice T n (parts.map fun (i, x) => (i, ev t x))).run P w = .ok (.slice (some ⟨w.heap.size, 0, none⟩) n n) (w.alloc (.cells (e.all l).toArray E)) := by
    unfold Instr.buildSlice
    have hle' : ¬ (16777216 < n * e.sz) := by omega
    simp only [Sem.run_bind, run_underlying t1, Result.andThen_ok]
    simp [sizeOf, typeInfo, t2, t3, hle', hne, zeroValue, t5]
    simp only [Array.toList_map] at hf
    unfold Value.cells at hf
    simp [hf, newRow, go_sem]
  refine y_val (v := .slice (some ⟨w.heap.size, 0, none⟩) n n) (w' := w.alloc (.cells (e.all l).toArray E)) ?_ (h _ _ (H.new (.alloc _ _ _) ?_ ?_))
  · simp only [execOp, Sem.run_bind, hrun]; rfl
  · refine ⟨e.all_len _, .inr ⟨w.heap.size, n, (e.all l).toArray, by rw [hn], Nat.zero_le _, ?_, by rw [hn]; exact Nat.le_refl _, ?_, by simp [e.all_len, hn], ?_⟩⟩
    · show (w.heap.push _)[w.heap.size]? = _
      simp
    · have : n ≤ n * e.sz := Nat.le_mul_of_pos_right n t7
      unfold maxLen; omega
    · exact List.take_of_length_le (by rw [e.all_len]; exact Nat.le_refl _)
  · intro b hb
    have : (Value.slice (some ⟨w.heap.size, 0, none⟩) n n).ownBlock = some b := hb
    cases this; exact Nat.le_refl _
end

theorem Enc.all_set {α : Type} (e : Enc α) : ∀ (l : List α) {i j : Nat} {a a' : α} {u : Value}, l[i]? = some a → j < e.sz → e.en a' = (e.en a).set j u → e.all (l.set i a') = (e.all l).set (i * e.sz + j) u
  | [], i, j, a, a', u, h, _, _ => by simp at h
  | b :: l, 0, j, a, a', u, h, hj, he => by
    simp only [List.getElem?_cons_zero, Option.some.injEq] at h
    subst h
    simp only [Enc.all, List.set_cons_zero, List.flatMap_cons, he, Nat.zero_mul, Nat.zero_add]
    rw [List.set_append_left _ _ (by rw [e.len]; exact hj)]
  | b :: l, i + 1, j, a, a', u, h, hj, he => by
    have ih := Enc.all_set e l (i := i) (by simpa using h) hj he
    simp only [Enc.all, List.set_cons_succ, List.flatMap_cons] at ih ⊢
    rw [ih, List.set_append_right _ _ (by rw [e.len, Nat.add_mul]; omega)]
    congr 2
    rw [e.len, Nat.add_mul]; omega
/-- A row of the call's own, with one cell written. -/
theorem own_store {α : Type} {e : Enc α} {E : TypeId} {v : Value} {l : List α} {w : World} {i j : Nat} {a a' : α} {u : Value} (h : (Rs.own e E v l).inv w) (ha : l[i]? = some a) (hj : j < e.sz) (he : e.en a' = (e.en a).set j u) :
    ∃ p old, adr v (i * e.sz + j) = some p ∧ w.cell? p = some old ∧ w.frozen? p = false ∧ (Rs.own e E v (l.set i a')).inv (w.setCell p u) ∧ (Rs.own e E v l).fp p.block := by
  have hi : i < l.length := (List.getElem?_eq_some_iff.1 ha).1
  obtain ⟨h1, h2⟩ := h
  rcases h2 with ⟨_, h3⟩ | ⟨g, cap, cur, hv, _, hh, h4, h5, h6, h7⟩
  · omega
  · have hlt : i * e.sz + j < l.length * e.sz := by
      have : (i + 1) * e.sz ≤ l.length * e.sz := Nat.mul_le_mul_right _ hi
      rw [Nat.add_mul] at this; omega
    have hle : l.length * e.sz ≤ cap * e.sz := Nat.mul_le_mul_right _ h4
    have hcur : i * e.sz + j < cur.size := by omega
    refine ⟨⟨g, i * e.sz + j, none⟩, cur[i * e.sz + j], by subst hv; simp [adr], by simp [World.cell?, hh, hcur], by simp [World.frozen?, hh], ?_, by show v.ownBlock = some g; rw [hv]; rfl⟩
    refine ⟨e.all_len _, .inr ⟨g, cap, cur.setIfInBounds (i * e.sz + j) u, by rw [List.length_set]; exact hv, Nat.zero_le _, ?_, by rw [List.length_set]; exact h4, h5, by simp [h6], ?_⟩⟩
    · simp [World.setCell, Array.getElem?_modify, hh]
    · rw [List.length_set, e.all_set l ha hj he, ← h7, Array.toList_setIfInBounds, List.take_set]
section
variable {P : Program} {ρ : Option Nat} {N : Nat} {t : Fr} {w w0 : World} {X : Nat → Prop} {L : List Rs} {R : Value → World → Prop} {d : Option Nat} {ty T T' : TypeId} {ps : String} {af : Array Edge} {g : Option (Nat × Bool)} {x y z : Operand} {k : IntKind} {α : Type}
theorem y_storeR {e : Enc α} {E : TypeId} {v u : Value} {l : List α} {i j : Nat} {a a' : α} (hT : Sz P T 1) (H : St X w0 w L) (k : Nat) (hk : L[k]? = some (.own e E v l)) (ha : l[i]? = some a) (hj : j < e.sz) (he : e.en a' = (e.en a).set j u)
    (hx : ev t x = .pointer (adr v (i * e.sz + j))) (hy : ev t y = u) (h1 : u.cells = #[u]) (h2 : u.oneCell' = true) (h : ∀ w', St X w0 w' (L.set k (.own e E v (l.set i a'))) → R undef w') : Yd P ρ N ⟨d, .store T x y, ty, ps, af, g⟩ t w R := by
  obtain ⟨p, old, q1, q2, q3, q4, q5⟩ := own_store (H.get k hk) ha hj he
  rw [q1] at hx
  exact y_store hT hx (by rw [hy]; exact h1) h2 q2 q3 (h _ (H.put k hk (.set _ _ _ q5) q4 (fun b hb => .inl hb)))
theorem y_storeI {E : TypeId} {v : Value} {l : List Int} {i u : Int} (hT : Sz P T 1) (H : St X w0 w L) (q : Nat) (hk : L[q]? = some (.own (.int k) E v l)) (h0 : 0 ≤ i) (h1 : i < l.length)
    (hx : ev t x = .pointer (adr v (i.toNat * 1))) (hy : ev t y = .int k u) (h : ∀ w', St X w0 w' (L.set q (.own (.int k) E v (l.set i.toNat u))) → R undef w') : Yd P ρ N ⟨d, .store T x y, ty, ps, af, g⟩ t w R :=
  y_storeR (e := .int k) (j := 0) hT H q hk (List.getElem?_eq_getElem (by omega)) Nat.zero_lt_one rfl hx hy rfl rfl h

/-- A piece. -/
def slv (v : Value) (lo hi sz : Nat) : Value :=
  match v with
  | .slice p _ c => .slice (if c = lo then p else p.map (·.add (lo * sz))) (hi - lo) (c - lo)
  | v => v
theorem Rd.slv {κ : Kd α} {F : Nat → Prop} {v : Value} {l : List α} {lo hi : Nat} (h : Rd κ w F v l) (h0 : lo ≤ hi) (h1 : hi ≤ l.length) : Rd κ w F (slv v lo hi κ.sz) ((l.take hi).drop lo) := by
  obtain ⟨p, c, e1, h2, h3, h4⟩ := h
  have hl : ((l.take hi).drop lo).length = hi - lo := by simp; omega
  refine ⟨if c = lo then p else p.map (·.add (lo * κ.sz)), c - lo, by rw [e1, hl]; rfl, by omega, by omega, ?_⟩
  rcases h4 with ⟨h4, h5, h6⟩ | ⟨b, o, h5, h6, h7⟩
  · subst h4; subst h5; subst h6
    exact .inl ⟨by simp, by simp, by omega⟩
  · subst h5
    right
    by_cases hc : c = lo
    · refine ⟨b, o, by rw [if_pos hc], h6, fun i y hy => ?_⟩
      have : (l.take hi).drop lo = [] := List.drop_eq_nil_of_le (by simp; omega)
      rw [this] at hy; simp at hy
    · refine ⟨b, o + lo * κ.sz, by rw [if_neg hc]; simp only [Option.map_some, Addr.add_mid], h6, fun i y hy => ?_⟩
      rw [List.getElem?_drop, List.getElem?_take] at hy
      split at hy
      · obtain ⟨cs, a, r⟩ := h7 _ _ hy
        exact ⟨cs, a, by rw [Nat.add_assoc, ← Nat.add_mul]; exact r⟩
      · cases hy
theorem r_slc {E sz by_ : Nat} {zz : Value} {p : Option Addr} {n c : Nat} {lo hi : Int} {k' : IntKind} (hT : Sl P T E sz by_ zz) (hx : ev t x = .slice p n c) (hy : ev t y = .int k lo) (hz : ev t z = .int k' hi) (h0 : 0 ≤ lo) (h1 : lo ≤ hi) (h2 : hi ≤ c) :
    Rv P ⟨d, .slice T x (some y) (some z) none, ty, ps, af, g⟩ t w (slv (.slice p n c) lo.toNat hi.toNat sz) := by
  obtain ⟨t1, i, t2, t3, t4, t5, t6, t7⟩ := hT
  unfold Rv
  have eh : (hi.toNat : Int) = hi := Int.toNat_of_nonneg (by omega)
  simp [execOp, hx, hy, hz, Instr.sliceAt, run_underlying t1, Instr.slice, Instr.sliceBounds, run_sliceBound, sizeOf, typeInfo, t2, t3, slv, h0, h1, h2, eh, (by omega : 0 ≤ hi)]
theorem r_slcH {E sz by_ : Nat} {zz : Value} {p : Option Addr} {n c : Nat} {hi : Int} {k' : IntKind} (hT : Sl P T E sz by_ zz) (hx : ev t x = .slice p n c) (hz : ev t z = .int k' hi) (h1 : 0 ≤ hi) (h2 : hi ≤ c) :
    Rv P ⟨d, .slice T x none (some z) none, ty, ps, af, g⟩ t w (slv (.slice p n c) 0 hi.toNat sz) := by
  obtain ⟨t1, i, t2, t3, t4, t5, t6, t7⟩ := hT
  unfold Rv
  simp [execOp, hx, hz, Instr.sliceAt, run_underlying t1, Instr.slice, Instr.sliceBounds, run_sliceBound, sizeOf, typeInfo, t2, t3, slv, h1, h2]
theorem r_slcL {E sz by_ : Nat} {zz : Value} {p : Option Addr} {n c : Nat} {lo : Int} (hT : Sl P T E sz by_ zz) (hx : ev t x = .slice p n c) (hy : ev t y = .int k lo) (h1 : 0 ≤ lo) (h2 : lo ≤ n) :
    Rv P ⟨d, .slice T x (some y) none none, ty, ps, af, g⟩ t w (slv (.slice p n c) lo.toNat n sz) := by
  obtain ⟨t1, i, t2, t3, t4, t5, t6, t7⟩ := hT
  unfold Rv
  simp [execOp, hx, hy, Instr.sliceAt, run_underlying t1, Instr.slice, Instr.sliceBounds, run_sliceBound, sizeOf, typeInfo, t2, t3, slv, h1, h2]
theorem r_slcR {κ : Kd α} {E by_ : Nat} {zz : Value} {F : Nat → Prop} {v : Value} {l : List α} {lo hi : Int} {k' : IntKind} (hT : Sl P T E κ.sz by_ zz) (h : Rd κ w F v l) (hx : ev t x = v) (hy : ev t y = .int k lo) (hz : ev t z = .int k' hi) (h0 : 0 ≤ lo) (h1 : lo ≤ hi) (h2 : hi ≤ l.length) :
    Rv P ⟨d, .slice T x (some y) (some z) none, ty, ps, af, g⟩ t w (slv v lo.toNat hi.toNat κ.sz) := by
  obtain ⟨p, c, e1, h3, _⟩ := h
  subst e1
  exact r_slc hT hx hy hz h0 h1 (by omega)
theorem r_slcHR {κ : Kd α} {E by_ : Nat} {zz : Value} {F : Nat → Prop} {v : Value} {l : List α} {hi : Int} {k' : IntKind} (hT : Sl P T E κ.sz by_ zz) (h : Rd κ w F v l) (hx : ev t x = v) (hz : ev t z = .int k' hi) (h1 : 0 ≤ hi) (h2 : hi ≤ l.length) :
    Rv P ⟨d, .slice T x none (some z) none, ty, ps, af, g⟩ t w (slv v 0 hi.toNat κ.sz) := by
  obtain ⟨p, c, e1, h3, _⟩ := h
  subst e1
  exact r_slcH hT hx hz h1 (by omega)
theorem r_slcLR {κ : Kd α} {E by_ : Nat} {zz : Value} {F : Nat → Prop} {v : Value} {l : List α} {lo : Int} (hT : Sl P T E κ.sz by_ zz) (h : Rd κ w F v l) (hx : ev t x = v) (hy : ev t y = .int k lo) (h1 : 0 ≤ lo) (h2 : lo ≤ l.length) :
    Rv P ⟨d, .slice T x (some y) none none, ty, ps, af, g⟩ t w (slv v lo.toNat l.length κ.sz) := by
  obtain ⟨p, c, e1, h3, _⟩ := h
  subst e1
  exact r_slcL hT hx hy h1 h2
/-- A piece with its capacity told. -/
def slv3 (v : Value) (lo hi mx sz : Nat) : Value :=
  match v with
  | .slice p _ _ => .slice (if mx = lo then p else p.map (·.add (lo * sz))) (hi - lo) (mx - lo)
  | v => v
theorem Rd.slv3 {κ : Kd α} {F : Nat → Prop} {v : Value} {l : List α} {lo hi mx : Nat} (h : Rd κ w F v l) (h0 : lo ≤ hi) (h1 : hi ≤ mx) (h2' : mx ≤ l.length) : Rd κ w F (slv3 v lo hi mx κ.sz) ((l.take hi).drop lo) := by
  obtain ⟨p, c, e1, h2, h3, h4⟩ := h
  have hl : ((l.take hi).drop lo).length = hi - lo := by simp; omega
  refine ⟨if mx = lo then p else p.map (·.add (lo * κ.sz)), mx - lo, by rw [e1, hl]; rfl, by omega, by omega, ?_⟩
  rcases h4 with ⟨h4, h5, h6⟩ | ⟨b, o, h5, h6, h7⟩
  · subst h4; subst h5; subst h6
    simp at h2'
    exact .inl ⟨by simp, by simp, by omega⟩
  · subst h5
    right
    by_cases hc : mx = lo
    · refine ⟨b, o, by rw [if_pos hc], h6, fun i y hy => ?_⟩
      have : (l.take hi).drop lo = [] := List.drop_eq_nil_of_le (by simp; omega)
      rw [this] at hy; simp at hy
    · refine ⟨b, o + lo * κ.sz, by rw [if_neg hc]; simp only [Option.map_some, Addr.add_mid], h6, fun i y hy => ?_⟩
      rw [List.getElem?_drop, List.getElem?_take] at hy
      split at hy
      · obtain ⟨cs, a, r⟩ := h7 _ _ hy
        exact ⟨cs, a, by rw [Nat.add_assoc, ← Nat.add_mul]; exact r⟩
      · cases hy
theorem r_slc3 {E sz by_ : Nat} {zz : Value} {p : Option Addr} {n c : Nat} {lo hi mx : Int} {k' k'' : IntKind} {u : Operand} (hT : Sl P T E sz by_ zz) (hx : ev t x = .slice p n c) (hy : ev t y = .int k lo) (hz : ev t z = .int k' hi) (hu : ev t u = .int k'' mx) (h0 : 0 ≤ lo) (h1 : lo ≤ hi) (h2 : hi ≤ mx) (h3 : mx ≤ c) :
    Rv P ⟨d, .slice T x (some y) (some z) (some u), ty, ps, af, g⟩ t w (slv3 (.slice p n c) lo.toNat hi.toNat mx.toNat sz) := by
  obtain ⟨t1, i, t2, t3, t4, t5, t6, t7⟩ := hT
  unfold Rv
  have eh : (hi.toNat : Int) = hi := Int.toNat_of_nonneg (by omega)
  have em : (mx.toNat : Int) = mx := Int.toNat_of_nonneg (by omega)
  simp [execOp, hx, hy, hz, hu, Instr.sliceAt, run_underlying t1, Instr.slice, Instr.sliceBounds, run_sliceBound, sizeOf, typeInfo, t2, t3, slv3, h0, h1, h2, h3, eh, em, (by omega : 0 ≤ hi), (by omega : 0 ≤ mx)]
theorem r_slc3R {κ : Kd α} {E by_ : Nat} {zz : Value} {F : Nat → Prop} {v : Value} {l : List α} {lo hi mx : Int} {k' k'' : IntKind} {u : Operand} (hT : Sl P T E κ.sz by_ zz) (h : Rd κ w F v l) (hx : ev t x = v) (hy : ev t y = .int k lo) (hz : ev t z = .int k' hi) (hu : ev t u = .int k'' mx) (h0 : 0 ≤ lo) (h1 : lo ≤ hi) (h2 : hi ≤ mx) (h2' : mx ≤ l.length) :
    Rv P ⟨d, .slice T x (some y) (some z) (some u), ty, ps, af, g⟩ t w (slv3 v lo.toNat hi.toNat mx.toNat κ.sz) := by
  obtain ⟨p, c, e1, h3, _⟩ := h
  subst e1
  exact r_slc3 hT hx hy hz hu h0 h1 h2 (by omega)
/-- A row of the call's own, cut at its end. -/
theorem own_trunc {e : Enc α} {E : TypeId} {v : Value} {l : List α} {n : Nat} (h : (Rs.own e E v l).inv w) (hn : n ≤ l.length) : (Rs.own e E (slv v 0 n e.sz) (l.take n)).inv w ∧ ∀ b, (Rs.own e E (slv v 0 n e.sz) (l.take n)).fp b → (Rs.own e E v l).fp b := by
  obtain ⟨h1, h2⟩ := h
  have hl : (l.take n).length = n := by simp; omega
  rcases h2 with ⟨h2, h3⟩ | ⟨g, cap, cur, hv, _, hh, h4, h5, h6, h7⟩
  · have hn0 : n = 0 := by omega
    subst hn0; subst h2
    refine ⟨⟨e.all_len _, .inl ⟨by simp [slv], by simp⟩⟩, fun b hb => ?_⟩
    simp [Rs.own, Rs.row, slv, Value.ownBlock] at hb
  · have hv' : slv v 0 n e.sz = .slice (some ⟨g, 0, none⟩) n cap := by
      subst hv
      simp only [slv, Nat.sub_zero, Nat.zero_mul]
      split <;> simp [Addr.add]
    have hle : n * e.sz ≤ l.length * e.sz := Nat.mul_le_mul_right _ hn
    refine ⟨⟨e.all_len _, .inr ⟨g, cap, cur, by rw [hv', hl], Nat.zero_le _, hh, by omega, h5, h6, ?_⟩⟩, fun b hb => ?_⟩
    · rw [hl]
      have h8 : e.all l = e.all (l.take n) ++ e.all (l.drop n) := by rw [← e.all_app, List.take_append_drop]
      have h9 : cur.toList.take (n * e.sz) = (cur.toList.take (l.length * e.sz)).take (n * e.sz) := by rw [List.take_take, Nat.min_eq_left hle]
      rw [h9, h7, h8, List.take_left' (by rw [e.all_len, hl])]
    · have hb' : (slv v 0 n e.sz).ownBlock = some b := hb
      rw [hv'] at hb'
      show v.ownBlock = some b
      rw [hv]; exact hb'
theorem St.trunc {e : Enc α} {E : TypeId} {v : Value} {l : List α} {n : Nat} (H : St X w0 w L) (q : Nat) (hk : L[q]? = some (.own e E v l)) (hn : n ≤ l.length) : St X w0 w (L.set q (.own e E (slv v 0 n e.sz) (l.take n))) :=
  H.put q hk (.refl _ _) (own_trunc (H.get q hk) hn).1 (fun b hb => .inl ((own_trunc (H.get q hk) hn).2 b hb))
/-- A list that is nil may be taken for one of the call's own. -/
theorem St.nilOwn (H : St X w0 w L) (e : Enc α) (E : TypeId) : St X w0 w (L ++ [.own e E (.slice none 0 0) []]) :=
  H.new (.refl _ _) ⟨by simp [Enc.all], .inl ⟨rfl, rfl⟩⟩ (fun b hb => by cases hb)
end
end Go.Proofs.Ythfhhnlnlcbckaa.Gw
