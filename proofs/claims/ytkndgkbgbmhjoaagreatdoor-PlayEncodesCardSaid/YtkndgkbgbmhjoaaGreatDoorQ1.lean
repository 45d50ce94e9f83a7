/- The card of the law that what a desk encodes is read back from what it tells: a part of its proof. The conditions are those of the statement. -/
import Derived.Test.YtkndgkbgbmhjoaaGreatDoorQ0
import Derived.Laws.StructEq
import Derived.Maps.OwnSet
import Derived.Lib.SlKeysI
namespace Go.Proofs.YtkndgkbgbmhjoaaGreatDoor.Gw
open Go Go.RowKit
set_option linter.unusedSimpArgs false
set_option linter.unusedVariables false
theorem rep_all {α : Type} (e : Enc α) (z0 : α) (z : Value) (hs : 0 < e.sz) (hz : z.cells.toList = e.en z0) : ∀ n, (madeCells z.cells (n * e.sz)).toList = e.all (List.replicate n z0)
 | 0 => by simp [madeCells, Enc.all]
 | n + 1 => by
   apply List.ext_getElem?
   intro j
   have hsz : z.cells.size = e.sz := by rw [← Array.length_toList, hz, e.len]
   by_cases hj : j < (n + 1) * e.sz
   · have hd : j / e.sz < n + 1 := (Nat.div_lt_iff_lt_mul hs).2 hj
     have hm : j % e.sz < e.sz := Nat.mod_lt _ hs
     have h1 : (List.replicate (n + 1) z0)[j / e.sz]? = some z0 := by rw [List.getElem?_replicate, if_pos hd]
     have h2 : (e.en z0)[j % e.sz]? = some ((e.en z0)[j % e.sz]'(by rw [e.len]; exact hm)) := List.getElem?_eq_getElem _
     have h3 := e.all_get _ h1 h2
     rw [show j / e.sz * e.sz + j % e.sz = j from Nat.div_add_mod' j e.sz] at h3
     rw [h3]
     have h4 : z.cells[j % e.sz]! = (e.en z0)[j % e.sz]'(by rw [e.len]; exact hm) := by
       rw [getElem!_pos z.cells (j % e.sz) (by rw [hsz]; exact hm)]
       simp only [← hz]
       simp
     simp [madeCells, hj, hsz, h4]
   · rw [List.getElem?_eq_none (by simp [madeCells]; omega), List.getElem?_eq_none (by rw [e.all_len]; simp; omega)]
section
variable {P : Program} {ρ : Option Nat} {N : Nat} {t : Fr} {w w0 : World} {X : Nat → Prop} {L : List Rs} {R : Value → World → Prop} {d : Option Nat} {ty T T' : TypeId} {ps : String} {af : Array Edge} {g : Option (Nat × Bool)} {x y z : Operand} {k : IntKind} {α : Type}
theorem y_make {e : Enc α} {E by_ : Nat} {zz : Value} {z0 : α} {n c : Int} (hT : Sl P T E e.sz by_ zz) (hz : zz.cells.toList = e.en z0) (H : St X w0 w L) (hx : ev t x = .int .i64 n) (hy : ev t y = .int .i64 c) (h0 : 0 ≤ n) (h1 : n ≤ c)
   (hb : (by_ : Int) * c ≤ 281474976710656) (h63 : c ≤ 9223372036854775807)
   (h : ∀ v w', St X w0 w' (L ++ [.own e E v (List.replicate n.toNat z0)]) → R v w') : Yd P ρ N ⟨d, .makeSlice T x y, ty, ps, af, g⟩ t w R := by
 obtain ⟨t1, i, t2, t3, t4, t5, t6, t7⟩ := hT
 have hr := run_make (P := P) w T E i zz t1 t2 t5 .i64 .i64 n c h0 h1 (by rw [t4]; exact hb) h63
 rw [t3] at hr
 refine y_val (v := .slice (some ⟨w.heap.size, 0, none⟩) n.toNat c.toNat) (w' := w.alloc (.cells (madeCells zz.cells (c.toNat * e.sz)) E)) (by simp only [execOp, hx, hy, Sem.run_bind, hr]; rfl) (h _ _ (H.new (.alloc _ _ _) ?_ ?_))
 · refine ⟨e.all_len _, .inr ⟨w.heap.size, c.toNat, madeCells zz.cells (c.toNat * e.sz), by simp, Nat.zero_le _, ?_, by simp; omega, by unfold maxLen; omega, by rw [size_madeCells], ?_⟩⟩
   · show (w.heap.push _)[w.heap.size]? = _
     simp
   · rw [rep_all e z0 zz t7 hz]
     rw [List.length_replicate]
     have : e.all (List.replicate c.toNat z0) = e.all (List.replicate n.toNat z0) ++ e.all (List.replicate (c.toNat - n.toNat) z0) := by
       rw [← e.all_app, List.replicate_append_replicate]; congr 1; congr 1; omega
     rw [this, List.take_left' (by rw [e.all_len]; simp)]
 · intro b hb
   have : (Value.slice (some ⟨w.heap.size, 0, none⟩) n.toNat c.toNat).ownBlock = some b := hb
   cases this; exact Nat.le_refl _
theorem y_bs {e : Enc α} {E by_ n : Nat} {zz : Value} {parts : Array (Nat × Operand)} {l : List α} (hT : Sl P T E e.sz by_ zz) (H : St X w0 w L) (hn : l.length = n) (hle : n * e.sz ≤ 16777216)
   (hf : Instr.fill (fun i => some (i * e.sz, e.sz)) ((Array.range (n * e.sz)).map (zz.cells[· % zz.cells.size]!)) (parts.map fun (i, x) => (i, ev t x)).toList = some (e.all l).toArray) (hn0 : 0 < n)
   (h : ∀ v w', St X w0 w' (L ++ [.own e E v l]) → R v w') : Yd P ρ N ⟨d, .buildSlice T n parts, ty, ps, af, g⟩ t w R := by
 obtain ⟨t1, i, t2, t3, t4, t5, t6, t7⟩ := hT
 have hne : ¬ (n * e.sz = 0) := by
   intro h0; rcases Nat.mul_eq_zero.1 h0 with h0 | h0 <;> omega
 have hrun : (Instr.buildSlice T n (parts.map fun (i, x) => (i, ev t x))).run P w = .ok (.slice (some ⟨w.heap.size, 0, none⟩) n n) (w.alloc (.cells (e.all l).toArray E)) := by
   unfold Instr.buildSlice
   have hle' : ¬ (16777216 < n * e.sz) := by omega
   simp only [Sem.run_bind, run_underlying t1, Result.andThen_ok]
   simp [sizeOf, typeInfo, t2, t3, hle', hne, zeroValue, t5]
   simp only [Array.toList_map] at hf
   unfold Value.cells at hf
   simp [hf, newRow, go_sem]
 refine y_val (v := .slice (some ⟨w.heap.size, 0, none⟩) n n) (w' := w.alloc (.cells (e.all l).toArray E)) ?_ (h _ _ (H.new (.alloc _ _ _) ?_ ?_))
 · simp only [execOp, Sem.run_bind, hrun]; rfl
 · refine ⟨e.all_len _, .inr ⟨w.heap.size, n, (e.all l).toArray, by rw [hn], Nat.zero_le _, ?_, by rw [hn]; exact Nat.le_refl _, ?_, by simp [e.all_len, hn], ?_⟩⟩
   · show (w.heap.push _)[w.heap.size]? = _
     simp
   · have : n ≤ n * e.sz := Nat.le_mul_of_pos_right n t7
     unfold maxLen; omega
   · exact List.take_of_length_le (by rw [e.all_len]; exact Nat.le_refl _)
 · intro b hb
   have : (Value.slice (some ⟨w.heap.size, 0, none⟩) n n).ownBlock = some b := hb
   cases this; exact Nat.le_refl _
end
theorem Enc.all_set {α : Type} (e : Enc α) : ∀ (l : List α) {i j : Nat} {a a' : α} {u : Value}, l[i]? = some a → j < e.sz → e.en a' = (e.en a).set j u → e.all (l.set i a') = (e.all l).set (i * e.sz + j) u
 | [], i, j, a, a', u, h, _, _ => by simp at h
 | b :: l, 0, j, a, a', u, h, hj, he => by
   simp only [List.getElem?_cons_zero, Option.some.injEq] at h
   subst h
   simp only [Enc.all, List.set_cons_zero, List.flatMap_cons, he, Nat.zero_mul, Nat.zero_add]
   rw [List.set_append_left _ _ (by rw [e.len]; exact hj)]
 | b :: l, i + 1, j, a, a', u, h, hj, he => by
   have ih := Enc.all_set e l (i := i) (by simpa using h) hj he
   simp only [Enc.all, List.set_cons_succ, List.flatMap_cons] at ih ⊢
   rw [ih, List.set_append_right _ _ (by rw [e.len, Nat.add_mul]; omega)]
   congr 2
   rw [e.len, Nat.add_mul]; omega
theorem own_store {α : Type} {e : Enc α} {E : TypeId} {v : Value} {l : List α} {w : World} {i j : Nat} {a a' : α} {u : Value} (h : (Rs.own e E v l).inv w) (ha : l[i]? = some a) (hj : j < e.sz) (he : e.en a' = (e.en a).set j u) :
   ∃ p old, adr v (i * e.sz + j) = some p ∧ w.cell? p = some old ∧ w.frozen? p = false ∧ (Rs.own e E v (l.set i a')).inv (w.setCell p u) ∧ (Rs.own e E v l).fp p.block := by
 have hi : i < l.length := (List.getElem?_eq_some_iff.1 ha).1
 obtain ⟨h1, h2⟩ := h
 rcases h2 with ⟨_, h3⟩ | ⟨g, cap, cur, hv, _, hh, h4, h5, h6, h7⟩
 · omega
 · have hlt : i * e.sz + j < l.length * e.sz := by
     have : (i + 1) * e.sz ≤ l.length * e.sz := Nat.mul_le_mul_right _ hi
     rw [Nat.add_mul] at this; omega
   have hle : l.length * e.sz ≤ cap * e.sz := Nat.mul_le_mul_right _ h4
   have hcur : i * e.sz + j < cur.size := by omega
   refine ⟨⟨g, i * e.sz + j, none⟩, cur[i * e.sz + j], by subst hv; simp [adr], by simp [World.cell?, hh, hcur], by simp [World.frozen?, hh], ?_, by show v.ownBlock = some g; rw [hv]; rfl⟩
   refine ⟨e.all_len _, .inr ⟨g, cap, cur.setIfInBounds (i * e.sz + j) u, by rw [List.length_set]; exact hv, Nat.zero_le _, ?_, by rw [List.length_set]; exact h4, h5, by simp [h6], ?_⟩⟩
   · simp [World.setCell, Array.getElem?_modify, hh]
   · rw [List.length_set, e.all_set l ha hj he, ← h7, Array.toList_setIfInBounds, List.take_set]
section
variable {P : Program} {ρ : Option Nat} {N : Nat} {t : Fr} {w w0 : World} {X : Nat → Prop} {L : List Rs} {R : Value → World → Prop} {d : Option Nat} {ty T T' : TypeId} {ps : String} {af : Array Edge} {g : Option (Nat × Bool)} {x y z : Operand} {k : IntKind} {α : Type}
theorem y_storeR {e : Enc α} {E : TypeId} {v u : Value} {l : List α} {i j : Nat} {a a' : α} (hT : Sz P T 1) (H : St X w0 w L) (k : Nat) (hk : L[k]? = some (.own e E v l)) (ha : l[i]? = some a) (hj : j < e.sz) (he : e.en a' = (e.en a).set j u)
   (hx : ev t x = .pointer (adr v (i * e.sz + j))) (hy : ev t y = u) (h1 : u.cells = #[u]) (h2 : u.oneCell' = true) (h : ∀ w', St X w0 w' (L.set k (.own e E v (l.set i a'))) → R undef w') : Yd P ρ N ⟨d, .store T x y, ty, ps, af, g⟩ t w R := by
 obtain ⟨p, old, q1, q2, q3, q4, q5⟩ := own_store (H.get k hk) ha hj he
 rw [q1] at hx
 exact y_store hT hx (by rw [hy]; exact h1) h2 q2 q3 (h _ (H.put k hk (.set _ _ _ q5) q4 (fun b hb => .inl hb)))
theorem y_storeI {E : TypeId} {v : Value} {l : List Int} {i u : Int} (hT : Sz P T 1) (H : St X w0 w L) (q : Nat) (hk : L[q]? = some (.own (.int k) E v l)) (h0 : 0 ≤ i) (h1 : i < l.length)
   (hx : ev t x = .pointer (adr v (i.toNat * 1))) (hy : ev t y = .int k u) (h : ∀ w', St X w0 w' (L.set q (.own (.int k) E v (l.set i.toNat u))) → R undef w') : Yd P ρ N ⟨d, .store T x y, ty, ps, af, g⟩ t w R :=
 y_storeR (e := .int k) (j := 0) hT H q hk (List.getElem?_eq_getElem (by omega)) Nat.zero_lt_one rfl hx hy rfl rfl h
def slv (v : Value) (lo hi sz : Nat) : Value :=
 match v with
 | .slice p _ c => .slice (if c = lo then p else p.map (·.add (lo * sz))) (hi - lo) (c - lo)
 | v => v
theorem Rd.slv {κ : Kd α} {F : Nat → Prop} {v : Value} {l : List α} {lo hi : Nat} (h : Rd κ w F v l) (h0 : lo ≤ hi) (h1 : hi ≤ l.length) : Rd κ w F (slv v lo hi κ.sz) ((l.take hi).drop lo) := by
 obtain ⟨p, c, e1, h2, h3, h4⟩ := h
 have hl : ((l.take hi).drop lo).length = hi - lo := by simp; omega
 refine ⟨if c = lo then p else p.map (·.add (lo * κ.sz)), c - lo, by rw [e1, hl]; rfl, by omega, by omega, ?_⟩
 rcases h4 with ⟨h4, h5, h6⟩ | ⟨b, o, h5, h6, h7⟩
 · subst h4; subst h5; subst h6
   exact .inl ⟨by simp, by simp, by omega⟩
 · subst h5
   right
   by_cases hc : c = lo
   · refine ⟨b, o, by rw [if_pos hc], h6, fun i y hy => ?_⟩
     have : (l.take hi).drop lo = [] := List.drop_eq_nil_of_le (by simp; omega)
     rw [this] at hy; simp at hy
   · refine ⟨b, o + lo * κ.sz, by rw [if_neg hc]; simp only [Option.map_some, Addr.add_mid], h6, fun i y hy => ?_⟩
     rw [List.getElem?_drop, List.getElem?_take] at hy
     split at hy
     · obtain ⟨cs, a, r⟩ := h7 _ _ hy
       exact ⟨cs, a, by rw [Nat.add_assoc, ← Nat.add_mul]; exact r⟩
     · cases hy
theorem r_slc {E sz by_ : Nat} {zz : Value} {p : Option Addr} {n c : Nat} {lo hi : Int} {k' : IntKind} (hT : Sl P T E sz by_ zz) (hx : ev t x = .slice p n c) (hy : ev t y = .int k lo) (hz : ev t z = .int k' hi) (h0 : 0 ≤ lo) (h1 : lo ≤ hi) (h2 : hi ≤ c) :
   Rv P ⟨d, .slice T x (some y) (some z) none, ty, ps, af, g⟩ t w (slv (.slice p n c) lo.toNat hi.toNat sz) := by
 obtain ⟨t1, i, t2, t3, t4, t5, t6, t7⟩ := hT
 unfold Rv
 have eh : (hi.toNat : Int) = hi := Int.toNat_of_nonneg (by omega)
 simp [execOp, hx, hy, hz, Instr.sliceAt, run_underlying t1, Instr.slice, Instr.sliceBounds, run_sliceBound, sizeOf, typeInfo, t2, t3, slv, h0, h1, h2, eh, (by omega : 0 ≤ hi)]
theorem r_slcH {E sz by_ : Nat} {zz : Value} {p : Option Addr} {n c : Nat} {hi : Int} {k' : IntKind} (hT : Sl P T E sz by_ zz) (hx : ev t x = .slice p n c) (hz : ev t z = .int k' hi) (h1 : 0 ≤ hi) (h2 : hi ≤ c) :
   Rv P ⟨d, .slice T x none (some z) none, ty, ps, af, g⟩ t w (slv (.slice p n c) 0 hi.toNat sz) := by
 obtain ⟨t1, i, t2, t3, t4, t5, t6, t7⟩ := hT
 unfold Rv
 simp [execOp, hx, hz, Instr.sliceAt, run_underlying t1, Instr.slice, Instr.sliceBounds, run_sliceBound, sizeOf, typeInfo, t2, t3, slv, h1, h2]
theorem r_slcL {E sz by_ : Nat} {zz : Value} {p : Option Addr} {n c : Nat} {lo : Int} (hT : Sl P T E sz by_ zz) (hx : ev t x = .slice p n c) (hy : ev t y = .int k lo) (h1 : 0 ≤ lo) (h2 : lo ≤ n) :
   Rv P ⟨d, .slice T x (some y) none none, ty, ps, af, g⟩ t w (slv (.slice p n c) lo.toNat n sz) := by
 obtain ⟨t1, i, t2, t3, t4, t5, t6, t7⟩ := hT
 unfold Rv
 simp [execOp, hx, hy, Instr.sliceAt, run_underlying t1, Instr.slice, Instr.sliceBounds, run_sliceBound, sizeOf, typeInfo, t2, t3, slv, h1, h2]
theorem r_slcR {κ : Kd α} {E by_ : Nat} {zz : Value} {F : Nat → Prop} {v : Value} {l : List α} {lo hi : Int} {k' : IntKind} (hT : Sl P T E κ.sz by_ zz) (h : Rd κ w F v l) (hx : ev t x = v) (hy : ev t y = .int k lo) (hz : ev t z = .int k' hi) (h0 : 0 ≤ lo) (h1 : lo ≤ hi) (h2 : hi ≤ l.length) :
   Rv P ⟨d, .slice T x (some y) (some z) none, ty, ps, af, g⟩ t w (slv v lo.toNat hi.toNat κ.sz) := by
 obtain ⟨p, c, e1, h3, _⟩ := h
 subst e1
 exact r_slc hT hx hy hz h0 h1 (by omega)
theorem r_slcHR {κ : Kd α} {E by_ : Nat} {zz : Value} {F : Nat → Prop} {v : Value} {l : List α} {hi : Int} {k' : IntKind} (hT : Sl P T E κ.sz by_ zz) (h : Rd κ w F v l) (hx : ev t x = v) (hz : ev t z = .int k' hi) (h1 : 0 ≤ hi) (h2 : hi ≤ l.length) :
   Rv P ⟨d, .slice T x none (some z) none, ty, ps, af, g⟩ t w (slv v 0 hi.toNat κ.sz) := by
 obtain ⟨p, c, e1, h3, _⟩ := h
 subst e1
 exact r_slcH hT hx hz h1 (by omega)
theorem r_slcLR {κ : Kd α} {E by_ : Nat} {zz : Value} {F : Nat → Prop} {v : Value} {l : List α} {lo : Int} (hT : Sl P T E κ.sz by_ zz) (h : Rd κ w F v l) (hx : ev t x = v) (hy : ev t y = .int k lo) (h1 : 0 ≤ lo) (h2 : lo ≤ l.length) :
   Rv P ⟨d, .slice T x (some y) none none, ty, ps, af, g⟩ t w (slv v lo.toNat l.length κ.sz) := by
 obtain ⟨p, c, e1, h3, _⟩ := h
 subst e1
 exact r_slcL hT hx hy h1 h2
def slv3 (v : Value) (lo hi mx sz : Nat) : Value :=
 match v with
 | .slice p _ _ => .slice (if mx = lo then p else p.map (·.add (lo * sz))) (hi - lo) (mx - lo)
 | v => v
theorem Rd.slv3 {κ : Kd α} {F : Nat → Prop} {v : Value} {l : List α} {lo hi mx : Nat} (h : Rd κ w F v l) (h0 : lo ≤ hi) (h1 : hi ≤ mx) (h2' : mx ≤ l.length) : Rd κ w F (slv3 v lo hi mx κ.sz) ((l.take hi).drop lo) := by
 obtain ⟨p, c, e1, h2, h3, h4⟩ := h
 have hl : ((l.take hi).drop lo).length = hi - lo := by simp; omega
 refine ⟨if mx = lo then p else p.map (·.add (lo * κ.sz)), mx - lo, by rw [e1, hl]; rfl, by omega, by omega, ?_⟩
 rcases h4 with ⟨h4, h5, h6⟩ | ⟨b, o, h5, h6, h7⟩
 · subst h4; subst h5; subst h6
   simp at h2'
   exact .inl ⟨by simp, by simp, by omega⟩
 · subst h5
   right
   by_cases hc : mx = lo
   · refine ⟨b, o, by rw [if_pos hc], h6, fun i y hy => ?_⟩
     have : (l.take hi).drop lo = [] := List.drop_eq_nil_of_le (by simp; omega)
     rw [this] at hy; simp at hy
   · refine ⟨b, o + lo * κ.sz, by rw [if_neg hc]; simp only [Option.map_some, Addr.add_mid], h6, fun i y hy => ?_⟩
     rw [List.getElem?_drop, List.getElem?_take] at hy
     split at hy
     · obtain ⟨cs, a, r⟩ := h7 _ _ hy
       exact ⟨cs, a, by rw [Nat.add_assoc, ← Nat.add_mul]; exact r⟩
     · cases hy
theorem r_slc3 {E sz by_ : Nat} {zz : Value} {p : Option Addr} {n c : Nat} {lo hi mx : Int} {k' k'' : IntKind} {u : Operand} (hT : Sl P T E sz by_ zz) (hx : ev t x = .slice p n c) (hy : ev t y = .int k lo) (hz : ev t z = .int k' hi) (hu : ev t u = .int k'' mx) (h0 : 0 ≤ lo) (h1 : lo ≤ hi) (h2 : hi ≤ mx) (h3 : mx ≤ c) :
   Rv P ⟨d, .slice T x (some y) (some z) (some u), ty, ps, af, g⟩ t w (slv3 (.slice p n c) lo.toNat hi.toNat mx.toNat sz) := by
 obtain ⟨t1, i, t2, t3, t4, t5, t6, t7⟩ := hT
 unfold Rv
 have eh : (hi.toNat : Int) = hi := Int.toNat_of_nonneg (by omega)
 have em : (mx.toNat : Int) = mx := Int.toNat_of_nonneg (by omega)
 simp [execOp, hx, hy, hz, hu, Instr.sliceAt, run_underlying t1, Instr.slice, Instr.sliceBounds, run_sliceBound, sizeOf, typeInfo, t2, t3, slv3, h0, h1, h2, h3, eh, em, (by omega : 0 ≤ hi), (by omega : 0 ≤ mx)]
theorem r_slc3R {κ : Kd α} {E by_ : Nat} {zz : Value} {F : Nat → Prop} {v : Value} {l : List α} {lo hi mx : Int} {k' k'' : IntKind} {u : Operand} (hT : Sl P T E κ.sz by_ zz) (h : Rd κ w F v l) (hx : ev t x = v) (hy : ev t y = .int k lo) (hz : ev t z = .int k' hi) (hu : ev t u = .int k'' mx) (h0 : 0 ≤ lo) (h1 : lo ≤ hi) (h2 : hi ≤ mx) (h2' : mx ≤ l.length) :
   Rv P ⟨d, .slice T x (some y) (some z) (some u), ty, ps, af, g⟩ t w (slv3 v lo.toNat hi.toNat mx.toNat κ.sz) := by
 obtain ⟨p, c, e1, h3, _⟩ := h
 subst e1
 exact r_slc3 hT hx hy hz hu h0 h1 h2 (by omega)
theorem own_trunc {e : Enc α} {E : TypeId} {v : Value} {l : List α} {n : Nat} (h : (Rs.own e E v l).inv w) (hn : n ≤ l.length) : (Rs.own e E (slv v 0 n e.sz) (l.take n)).inv w ∧ ∀ b, (Rs.own e E (slv v 0 n e.sz) (l.take n)).fp b → (Rs.own e E v l).fp b := by
 obtain ⟨h1, h2⟩ := h
 have hl : (l.take n).length = n := by simp; omega
 rcases h2 with ⟨h2, h3⟩ | ⟨g, cap, cur, hv, _, hh, h4, h5, h6, h7⟩
 · have hn0 : n = 0 := by omega
   subst hn0; subst h2
   refine ⟨⟨e.all_len _, .inl ⟨by simp [slv], by simp⟩⟩, fun b hb => ?_⟩
   simp [Rs.own, Rs.row, slv, Value.ownBlock] at hb
 · have hv' : slv v 0 n e.sz = .slice (some ⟨g, 0, none⟩) n cap := by
     subst hv
     simp only [slv, Nat.sub_zero, Nat.zero_mul]
     split <;> simp [Addr.add]
   have hle : n * e.sz ≤ l.length * e.sz := Nat.mul_le_mul_right _ hn
   refine ⟨⟨e.all_len _, .inr ⟨g, cap, cur, by rw [hv', hl], Nat.zero_le _, hh, by omega, h5, h6, ?_⟩⟩, fun b hb => ?_⟩
   · rw [hl]
     have h8 : e.all l = e.all (l.take n) ++ e.all (l.drop n) := by rw [← e.all_app, List.take_append_drop]
     have h9 : cur.toList.take (n * e.sz) = (cur.toList.take (l.length * e.sz)).take (n * e.sz) := by rw [List.take_take, Nat.min_eq_left hle]
     rw [h9, h7, h8, List.take_left' (by rw [e.all_len, hl])]
   · have hb' : (slv v 0 n e.sz).ownBlock = some b := hb
     rw [hv'] at hb'
     show v.ownBlock = some b
     rw [hv]; exact hb'
theorem St.trunc {e : Enc α} {E : TypeId} {v : Value} {l : List α} {n : Nat} (H : St X w0 w L) (q : Nat) (hk : L[q]? = some (.own e E v l)) (hn : n ≤ l.length) : St X w0 w (L.set q (.own e E (slv v 0 n e.sz) (l.take n))) :=
 H.put q hk (.refl _ _) (own_trunc (H.get q hk) hn).1 (fun b hb => .inl ((own_trunc (H.get q hk) hn).2 b hb))
theorem St.nilOwn (H : St X w0 w L) (e : Enc α) (E : TypeId) : St X w0 w (L ++ [.own e E (.slice none 0 0) []]) :=
 H.new (.refl _ _) ⟨by simp [Enc.all], .inl ⟨rfl, rfl⟩⟩ (fun b hb => by cases hb)
end
def upds (t : Fr) : List (Nat × Value) → Fr
 | [] => t
 | (i, v) :: l => upds (upd t i v) l
def Ags (t : Fr) : List (Nat × Value) → Prop
 | [] => True
 | (i, v) :: l => t i = v ∧ Ags t l
theorem upd_self (t : Fr) (i : Nat) : upd t i (t i) = t := by
 funext j; unfold upd
 cases h : Nat.beq j i
 · rfl
 · rw [Nat.eq_of_beq_eq_true h]; rfl
theorem upds_eq {t : Fr} : ∀ {l : List (Nat × Value)}, Ags t l → t = upds t l
 | [], _ => rfl
 | (i, v) :: l, ⟨h1, h2⟩ => by
   unfold upds; rw [← h1, upd_self]; exact upds_eq h2
theorem bind_some {α β : Type} {o : Option α} {f : α → Option β} {r : β} (h : o.bind f = some r) : ∃ x, o = some x ∧ f x = some r := by
 cases o with
 | none => cases h
 | some x => exact ⟨x, rfl, h⟩
def grd {α : Type} (b : Bool) (x : Option α) : Option α := bif b then x else none
theorem grd_some {α : Type} {p : Prop} [Decidable p] {x : Option α} {r : α} (h : grd (decide p) x = some r) : p ∧ x = some r := by
 unfold grd at h
 by_cases hp : p
 · simp only [hp, decide_true, cond_true] at h; exact ⟨hp, h⟩
 · simp only [hp, decide_false, cond_false] at h; cases h
theorem iT {α : Type} {b : Bool} {x y : Option α} {r : α} (h : b = true) (H : (bif b then x else y) = some r) : x = some r := by rw [h] at H; exact H
theorem iF {α : Type} {b : Bool} {x y : Option α} {r : α} (h : b = false) (H : (bif b then x else y) = some r) : y = some r := by rw [h] at H; exact H
section
variable {P : Program} {ρ : Option Nat} {N : Nat} {Q : Exit → Fr → World → Prop} {nx : Fr → World → Prop} {t : Fr} {w w0 : World} {X : Nat → Prop} {L M : List Rs}
theorem n_thn (h : nx t w) : Thn nx Q .normal t w := h
theorem n_bk {i : Nat} (h : Q .normal t w) : Bk i Q .normal t w := h
theorem r_thn (h : Q .ret t w) : Thn nx Q .ret t w := h
theorem r_bk {i : Nat} (h : Q .ret t w) : Bk i Q .ret t w := h
theorem x_thn {i : Nat} (h : Q (.exit i) t w) : Thn nx Q (.exit i) t w := h
theorem x_bk {i : Nat} (h : Q .normal t w) : Bk i Q (.exit i) t w := by simp only [Bk, if_true]; exact h
theorem x_bkne {i j : Nat} (hij : (i == j) = false) (h : Q (.exit i) t w) : Bk j Q (.exit i) t w := by
 simp only [Bk]; rw [if_neg (by simpa using hij)]; exact h
theorem St.app {w' : World} (H : St X w0 w L) (K : St no w w' M) : St X w0 w' (L ++ M) := by
 have h1 := H.call K.ch
 refine ⟨h1.ch, fun r hr => ?_, fun r hr b hb => ?_, ?_⟩
 · rcases List.mem_append.1 hr with h | h
   · exact h1.inv r h
   · exact K.inv r h
 · rcases List.mem_append.1 hr with h | h
   · exact h1.fp r h b hb
   · exact .inl (Nat.le_trans H.ch.size ((K.fp r h b hb).resolve_right (fun x => x)))
 · rw [List.pairwise_append]
   refine ⟨H.dj, K.dj, fun a ha s hs b h1 h2 => ?_⟩
   have := a.bd w (H.inv a ha) b h1
   have := (K.fp s hs b h2).resolve_right (fun x => x)
   omega
theorem St.pre (H : St X w0 w (L ++ M)) : St X w0 w L :=
 ⟨H.ch, fun r hr => H.inv r (List.mem_append_left _ hr), fun r hr => H.fp r (List.mem_append_left _ hr), (List.pairwise_append.1 H.dj).1⟩
theorem St.appX {w' : World} {r r' : Rs} (H : St X w0 w L) (i : Nat) (hi : L[i]? = some r) (K : St r.fp w w' (r' :: M)) : St X w0 w' (L.set i r' ++ M) := by
 have hr' : ∀ b, r'.fp b → r.fp b ∨ w.heap.size ≤ b := fun b hb => (K.fp r' List.mem_cons_self b hb).symm
 have h1 := H.put i hi K.ch (K.inv r' List.mem_cons_self) hr'
 have old : ∀ a ∈ L.set i r', ∀ b, a.fp b → b < w.heap.size ∨ r'.fp b := by
   intro a ha b hb
   rcases List.mem_or_eq_of_mem_set ha with h | h
   · exact .inl (a.bd w (H.inv a h) b hb)
   · subst h; exact .inr hb
 refine ⟨h1.ch, fun s hs => ?_, fun s hs b hb => ?_, ?_⟩
 · rcases List.mem_append.1 hs with h | h
   · exact h1.inv s h
   · exact K.inv s (List.mem_cons_of_mem _ h)
 · rcases List.mem_append.1 hs with h | h
   · exact h1.fp s h b hb
   · rcases K.fp s (List.mem_cons_of_mem _ h) b hb with h2 | h2
     · exact .inl (Nat.le_trans H.ch.size h2)
     · exact H.fp r (List.mem_of_getElem? hi) b h2
 · rw [List.pairwise_append]
   refine ⟨h1.dj, (List.pairwise_cons.1 K.dj).2, fun a ha s hs b h2 h3 => ?_⟩
   have hs' := List.mem_cons_of_mem r' hs
   by_cases har : r'.fp b
   · exact (List.pairwise_cons.1 K.dj).1 s hs b har h3
   · -- a is an old thing other than thing i
     have hlt := (old a ha b h2).resolve_right har
     rcases K.fp s hs' b h3 with h4 | h4
     · omega
     · rcases List.mem_or_eq_of_mem_set ha with h5 | h5
       · obtain ⟨j, hj, e⟩ := List.getElem_of_mem ha
         rw [List.getElem_set] at e
         have hj' : j < L.length := by simpa using hj
         by_cases hij : i = j
         · rw [if_pos hij] at e; exact har (e ▸ h2)
         · rw [if_neg hij] at e
           exact H.apart j i (fun e => hij e.symm) (List.getElem?_eq_getElem hj') hi b (by rw [e]; exact h2) h4
       · exact har (h5 ▸ h2)
theorem St.sel (H : St X w0 w L) (is : List Nat) (h : is.map (fun i => L[i]?) = M.map some) (hn : decide is.Nodup = true) : St X w0 w M := by
 have hm : ∀ (is : List Nat) (M : List Rs), is.map (fun i => L[i]?) = M.map some → ∀ r ∈ M, ∃ i ∈ is, L[i]? = some r := by
   intro is M h r hr
   have : some r ∈ is.map (fun i => L[i]?) := h ▸ List.mem_map_of_mem hr
   obtain ⟨i, hi, e⟩ := List.mem_map.1 this
   exact ⟨i, hi, e⟩
 refine ⟨H.ch, fun r hr => ?_, fun r hr => ?_, ?_⟩
 · obtain ⟨i, _, e⟩ := hm _ _ h r hr; exact H.get i e
 · obtain ⟨i, _, e⟩ := hm _ _ h r hr; exact H.fp r (List.mem_of_getElem? e)
 · replace hn := of_decide_eq_true hn
   revert hn h
   induction is generalizing M with
   | nil => intro h _; cases M with
     | nil => exact .nil
     | cons a M => cases h
   | cons i is ih =>
     intro h hn
     cases M with
     | nil => cases h
     | cons r M =>
       simp only [List.map_cons, List.cons.injEq] at h
       refine List.pairwise_cons.2 ⟨fun s hs => ?_, ih h.2 (List.nodup_cons.1 hn).2⟩
       obtain ⟨j, hj, e⟩ := hm _ _ h.2 s hs
       exact H.apart i j (fun e => (List.nodup_cons.1 hn).1 (e ▸ hj)) h.1 e
def Ol (X : Nat → Prop) (w : World) : Nat → Prop := fun b => b < w.heap.size ∧ ¬ X b
theorem St.rd {α : Type} {κ : Kd α} {v : Value} {l : List α} (H : St X w0 w L) (h : Rd κ w0 (Ol X w0) v l) : Rd κ w (Ol X w0) v l :=
 h.keep fun b hb => H.ch.block b hb.1 hb.2
theorem St.arg {α : Type} {κ : Kd α} {v : Value} {l : List α} (H : St X w0 w L) (h : Rd κ w (Ol X w0) v l) : Rd κ w (Ol no w) v l :=
 h.mono fun _ hb => ⟨Nat.lt_of_lt_of_le hb.1 H.ch.size, fun x => x⟩
theorem St.argX {α : Type} {κ : Kd α} {v : Value} {l : List α} (H : St X w0 w L) (i : Nat) {r : Rs} (hi : L[i]? = some r) (h : Rd κ w (Ol X w0) v l) : Rd κ w (Ol r.fp w) v l :=
 h.mono fun b hb => ⟨Nat.lt_of_lt_of_le hb.1 H.ch.size, fun x => hb.2 ((H.fp r (List.mem_of_getElem? hi) b x).resolve_left (by have := hb.1; omega))⟩
theorem St.own {α : Type} {κ : Kd α} {v : Value} {l : List α} (H : St X w0 w L) (q : Nat) {s : Rs} (hq : L[q]? = some s) (h : Rd κ w s.fp v l) : Rd κ w (Ol no w) v l :=
 h.mono fun b hb => ⟨s.bd w (H.get q hq) b hb, fun x => x⟩
theorem St.ownX {α : Type} {κ : Kd α} {v : Value} {l : List α} (H : St X w0 w L) (q i : Nat) {s r : Rs} (hq : L[q]? = some s) (hi : L[i]? = some r) (hne : (q == i) = false) (h : Rd κ w s.fp v l) : Rd κ w (Ol r.fp w) v l :=
 h.mono fun b hb => ⟨s.bd w (H.get q hq) b hb, H.apart q i (by simpa using hne) hq hi b hb⟩
theorem blk_range {b o n : Nat} {cs : Array Value} {T : TypeId} {l : List Value} (h : (Rs.blk b cs T).inv w) (hl : (cs.toList.drop o).take n = l) : w.rangeAt b o l := by
 intro j v hv
 refine blk_cell h ?_
 rw [← hl, List.getElem?_take] at hv
 split at hv
 · rw [List.getElem?_drop] at hv; simpa using hv
 · cases hv
def setL (cs : Array Value) : Nat → List Value → Array Value
 | _, [] => cs
 | o, v :: l => setL (cs.toList.set o v).toArray (o + 1) l
theorem blk_setL {b : Nat} {T : TypeId} : ∀ (l : List Value) (o : Nat) (cs : Array Value) (w : World), (Rs.blk b cs T).inv w → (Rs.blk b (setL cs o l) T).inv (w.setCells b o l)
 | [], _, _cs, _w, h => h
 | v :: l, o, _cs, _w, h => blk_setL l (o + 1) _ _ (by have := blk_set (o := o) v h; rwa [show _cs.setIfInBounds o v = (_cs.toList.set o v).toArray from by apply Array.ext'; simp] at this)
theorem ch_setL {b : Nat} : ∀ (l : List Value) (o : Nat) (w : World), Ch (fun x => x = b) w (w.setCells b o l)
 | [], _, _ => .refl _ _
 | v :: l, o, w => Ch.trans (X := fun x => x = b) (Ch.set (X := fun x => x = b) w ⟨b, o, none⟩ v rfl) (ch_setL l (o + 1) _)
variable {R : Value → World → Prop} {d : Option Nat} {ty T T' : TypeId} {ps : String} {af : Array Edge} {g : Option (Nat × Bool)} {x y : Operand}
theorem y_boxS {cs : Array Value} (H : St X w0 w L) (hx : (ev t x).cells = cs) (h : ∀ b w', St X w0 w' (L ++ [.blk b cs T]) → R (.pointer (some ⟨b, 0, none⟩)) w') : Yd P ρ N ⟨d, .box T x, ty, ps, af, g⟩ t w R :=
 y_box hx (h _ _ (H.box cs T))
def Zr (P : Program) (T : TypeId) (cs : Array Value) : Prop := ∃ v, (P.info? T).bind (·.zero) = some v ∧ v.cells = cs
theorem y_allocS {cs : Array Value} (hz : Zr P T cs) (H : St X w0 w L) (h : ∀ b w', St X w0 w' (L ++ [.blk b cs T]) → R (.pointer (some ⟨b, 0, none⟩)) w') : Yd P ρ N ⟨d, .alloc T, ty, ps, af, g⟩ t w R := by
 obtain ⟨v, h1, h2⟩ := hz
 exact y_alloc h1 h2 (h _ _ (H.box cs T))
theorem y_storeB {b o : Nat} {cs : Array Value} {v old : Value} {T0 : TypeId} (hT : Sz P T 1) (H : St X w0 w L) (i : Nat) (hi : L[i]? = some (.blk b cs T0)) (hx : ev t x = .pointer (some ⟨b, o, none⟩)) (hy : (ev t y).cells = #[v]) (h1 : v.oneCell' = true)
   (hc : cs[o]? = some old) (h : ∀ w', St X w0 w' (L.set i (.blk b (cs.toList.set o v).toArray T0)) → R undef w') : Yd P ρ N ⟨d, .store T x y, ty, ps, af, g⟩ t w R :=
 y_store hT hx hy h1 (blk_cell (H.get i hi) hc) (blk_frozen (H.get i hi)) (h _ (by have := H.store i hi o v; rwa [show cs.setIfInBounds o v = (cs.toList.set o v).toArray from by apply Array.ext'; simp] at this))
theorem y_storeBA {b o n : Nat} {cs as : Array Value} {T0 : TypeId} (hT : Sz P T n) (H : St X w0 w L) (i : Nat) (hi : L[i]? = some (.blk b cs T0)) (hx : ev t x = .pointer (some ⟨b, o, none⟩)) (hy : ev t y = .agg as) (hn : as.size = n) (h1' : as.toList.all (·.oneCell') = true)
   (hc : Nat.ble (o + as.size) cs.size = true) (h : ∀ w', St X w0 w' (L.set i (.blk b (setL cs o as.toList) T0)) → R undef w') : Yd P ρ N ⟨d, .store T x y, ty, ps, af, g⟩ t w R := by
 subst hn
 have h1 : as.all (·.oneCell') = true := by rw [← h1', Array.all_toList]
 have hc' : o + as.size ≤ cs.size := Nat.le_of_ble_eq_true hc
 refine y_storeA hT hx hy (fun j hj => ⟨?_, blk_frozen (H.get i hi)⟩) h1 (h _ (H.put i hi (ch_setL _ _ _) (blk_setL _ _ _ _ (H.get i hi)) (fun _ hb => .inl hb)))
 rw [blk_cell (H.get i hi) (Array.getElem?_eq_getElem (by omega))]; rfl
theorem r_loadB {b o n : Nat} {cs : Array Value} {T0 : TypeId} {l : List Value} (hT : Ag P T n) (h : (Rs.blk b cs T0).inv w) (hx : ev t x = .pointer (some ⟨b, o, none⟩)) (hl : (cs.toList.drop o).take n = l) (hn : l.length = n) : Rv P ⟨d, .load T x, ty, ps, af, g⟩ t w (.agg l.toArray) := by
 subst hn
 exact r_loadA hT hx (blk_range h hl)
theorem y_callL {f : FuncId} {xs : Array Operand} {as : Array TypeId} {vs : List Value} (hf : En P f) (hv : xs.toList.map (ev t) = vs) (h : Calls P f vs.toArray w fun e w'' => ∃ v, e = .returned v ∧ R v w'') :
   Yd P ρ N ⟨d, .call ⟨.value (.func f), xs, as⟩, ty, ps, af, g⟩ t w R :=
 y_call hf (vs := vs.toArray) (by subst hv; apply Array.ext'; simp) h
theorem y_callvL {f : FuncId} {xs : Array Operand} {as : Array TypeId} {vs : List Value} {cap : Array Value} (hx : ev t x = .func (.func f) #[] cap) (hf : En P f) (hv : xs.toList.map (ev t) ++ cap.toList = vs) (h : Calls P f vs.toArray w fun e w'' => ∃ v, e = .returned v ∧ R v w'') :
   Yd P ρ N ⟨d, .call ⟨.value x, xs, as⟩, ty, ps, af, g⟩ t w R :=
 y_callv hx hf (vs := vs.toArray) (by subst hv; apply Array.ext'; simp) h
end
theorem setRun (o : Nat) : ∀ (vs : List Value) (k : Nat) (cs : Array Value), o + k + vs.length ≤ cs.size →
   ((vs.zipIdx k).foldl (fun (cs : Array Value) (p : Value × Nat) => cs.setIfInBounds (o + p.2) p.1) cs).toList = cs.toList.take (o + k) ++ vs ++ cs.toList.drop (o + k + vs.length)
 | [], k, cs, _ => by simp
 | v :: vs, k, cs, h => by
   simp only [List.length_cons] at h
   rw [List.zipIdx_cons, List.foldl_cons, setRun o vs (k + 1) _ (by simp; omega)]
   simp only [Array.toList_setIfInBounds, List.length_cons]
   rw [List.take_set, List.drop_set, if_pos (by omega)]
   have h1 : o + (k + 1) = o + k + 1 := by omega
   rw [h1, List.take_succ_eq_append_getElem (by simp; omega), List.set_append_right _ _ (by simp; omega)]
   have h2 : o + k - (List.take (o + k) cs.toList).length = 0 := by simp; omega
   rw [h2, show o + k + 1 + vs.length = o + k + (vs.length + 1) by omega]
   simp
def LitOk {α : Type} (e : Enc α) (t : Fr) : Nat → List (Nat × Operand) → List α → Prop
 | _, [], [] => True
 | i, (j, x) :: ps, a :: l => j = i ∧ (ev t x).cells = (e.en a).toArray ∧ LitOk e t (i + 1) ps l
 | _, _, _ => False
theorem fill_lit {α : Type} (e : Enc α) (t : Fr) : ∀ (ps : List (Nat × Operand)) (l : List α) (i : Nat) (cs : Array Value), LitOk e t i ps l → cs.size = (i + l.length) * e.sz →
   Instr.fill (fun i => some (i * e.sz, e.sz)) cs (ps.map fun p => (p.1, ev t p.2)) = some ((cs.toList.take (i * e.sz) ++ e.all l).toArray)
 | [], [], i, cs, _, hs => by
   simp only [List.map_nil, Instr.fill, Option.some.injEq]
   apply Array.ext'
   simp only [List.length_nil, Nat.add_zero] at hs
   simp [Enc.all, List.take_of_length_le (by simp; omega : cs.toList.length ≤ i * e.sz)]
 | [], _ :: _, _, _, h, _ => h.elim
 | _ :: _, [], _, _, h, _ => h.elim
 | (j, x) :: ps, a :: l, i, cs, ⟨h1, h2, h3⟩, hs => by
   subst h1
   have hz : (ev t x).cells.size = e.sz := by rw [h2]; simp [e.len]
   simp only [List.length_cons] at hs
   have hs' : cs.size = j * e.sz + e.sz + l.length * e.sz := by rw [hs, Nat.add_mul, Nat.add_mul]; omega
   simp only [List.map_cons, Instr.fill]
   rw [if_neg (by rw [hz]; intro hh; rcases (by simpa using hh : _) with hh; omega)]
   have key := setRun (j * e.sz) (e.en a) 0 cs (by simp [e.len]; omega)
   have e1 : (Array.foldl (fun cs x => match x with | (c, j_1) => cs.setIfInBounds (j * e.sz + j_1) c) cs (ev t x).cells.zipIdx) = (cs.toList.take (j * e.sz) ++ e.en a ++ cs.toList.drop (j * e.sz + e.sz)).toArray := by
     apply Array.ext'
     rw [h2]
     have : (e.en a).toArray.zipIdx = ((e.en a).zipIdx).toArray := by simp
     rw [this, List.foldl_toArray]
     simpa [e.len] using key
   rw [e1, fill_lit e t ps l (j + 1) _ h3 (by simp [e.len]; rw [hs', Nat.add_mul, Nat.add_mul]; omega)]
   congr 1
   have : (j + 1) * e.sz = j * e.sz + e.sz := by rw [Nat.add_mul]; omega
   rw [this]
   apply Array.ext'
   simp only [Enc.all, List.flatMap_cons]
   rw [List.take_append_of_le_length (by simp [e.len]; omega), List.take_of_length_le (by simp [e.len]; omega)]
   simp
theorem y_bsL {α : Type} {P : Program} {ρ : Option Nat} {N : Nat} {t : Fr} {w w0 : World} {X : Nat → Prop} {L : List Rs} {R : Value → World → Prop} {d : Option Nat} {ty T : TypeId} {ps : String} {af : Array Edge} {g : Option (Nat × Bool)}
   {e : Enc α} {E by_ n : Nat} {zz : Value} {parts : Array (Nat × Operand)} {l : List α} (hT : Sl P T E e.sz by_ zz) (H : St X w0 w L) (hn : l.length = n) (hle : n * e.sz ≤ 16777216)
   (hf : LitOk e t 0 parts.toList l) (hn0 : 0 < n)
   (h : ∀ v w', St X w0 w' (L ++ [.own e E v l]) → R v w') : Yd P ρ N ⟨d, .buildSlice T n parts, ty, ps, af, g⟩ t w R := by
 refine y_bs hT H hn hle ?_ hn0 h
 have := fill_lit e t parts.toList l 0 ((Array.range (n * e.sz)).map (zz.cells[· % zz.cells.size]!)) hf (by simp [hn])
 simp only [Nat.zero_mul, List.take_zero, List.nil_append] at this
 rw [← this]
 congr 1
 simp
section
variable {P : Program} {ρ : Option Nat} {N : Nat} {Q : Exit → Fr → World → Prop} {t : Fr} {w w0 : World} {X : Nat → Prop} {L M : List Rs} {R : Value → World → Prop} {d : Option Nat} {ty T T' : TypeId} {ps : String} {af : Array Edge} {g : Option (Nat × Bool)} {x y : Operand} {α : Type}
theorem bind_ul {T E : TypeId} (h : P.underlying T = some (.slice E)) : ((#[T] : Array TypeId)[0]?).bind P.underlying = some (.slice E) := h
theorem sl_of {T E sz by_ : Nat} {z : Value} (h1 : P.underlying T = some (.slice E)) (h2 : (P.info? E).map (fun i => (i.zero, i.size, i.bytes)) = some (some z, sz, by_)) (h3 : z.cells.size = sz) (h4 : 0 < sz) : Sl P T E sz by_ z := by
 cases hi : P.info? E with
 | none => simp [hi] at h2
 | some i =>
   simp [hi] at h2
   exact ⟨h1, i, hi, h2.2.1, h2.2.2, h2.1, h3, h4⟩
theorem wc_drawnS {id n : Nat} {l : List Oper} {ds : List Nat} (hm : P.follows .mixedOrders = true) (_H : St X w0 w L) (hn : l.length = n) {l0 : Array Bool} (hl : Array.replicate n false = l0)
   (h : Wa P ρ N l.toArray Q (fun w => St X w0 w L) ds n l0 t w.drew) : Wc P ρ N Q (.region id l.toArray true) t w := by subst hl; exact wc_drawn hm hn h
theorem St.sub0 (H : St X w0 w L) : St X w0 w [] := ⟨H.ch, by simp, by simp, .nil⟩
theorem St.sub1 (H : St X w0 w L) (i : Nat) {r : Rs} (hi : L[i]? = some r) : St X w0 w [r] :=
 ⟨H.ch, by simpa using H.get i hi, by simpa using H.fp r (List.mem_of_getElem? hi), List.pairwise_singleton _ _⟩
theorem St.sub2 (H : St X w0 w L) (i j : Nat) {r s : Rs} (hi : L[i]? = some r) (hj : L[j]? = some s) (hij : (i == j) = false) : St X w0 w [r, s] :=
 ⟨H.ch, by simpa using ⟨H.get i hi, H.get j hj⟩, by simpa using ⟨H.fp r (List.mem_of_getElem? hi), H.fp s (List.mem_of_getElem? hj)⟩, by simpa using H.apart i j (by simpa using hij) hi hj⟩
theorem St.sub3 (H : St X w0 w L) (i j k : Nat) {r s u : Rs} (hi : L[i]? = some r) (hj : L[j]? = some s) (hk : L[k]? = some u) (hij : (i == j) = false) (hik : (i == k) = false) (hjk : (j == k) = false) : St X w0 w [r, s, u] :=
 ⟨H.ch, by simpa using ⟨H.get i hi, H.get j hj, H.get k hk⟩, by simpa using ⟨H.fp r (List.mem_of_getElem? hi), H.fp s (List.mem_of_getElem? hj), H.fp u (List.mem_of_getElem? hk)⟩,
  by simpa using ⟨⟨H.apart i j (by simpa using hij) hi hj, H.apart i k (by simpa using hik) hi hk⟩, H.apart j k (by simpa using hjk) hj hk⟩⟩
def Bd (P : Program) (T : TypeId) (cs : Array Value) (pl : List (Nat × Nat)) : Prop :=
 ∃ fs v, P.underlying T = some (.struct fs) ∧ (P.info? T).bind (·.zero) = some v ∧ v.cells = cs ∧ ∀ w, (fs.mapM fun f => do pure (f.offset, ← sizeOf f.type) : Sem _).run P w = .ok pl.toArray w
theorem r_build {parts : Array (Nat × Operand)} {cs0 : Array Value} {pl : List (Nat × Nat)} {cs : List Value} (hB : Bd P T cs0 pl) (hf : Instr.fill (pl[·]?) cs0 (parts.toList.map fun p => (p.1, ev t p.2)) = some cs.toArray) :
   Rv P ⟨d, .build T parts, ty, ps, af, g⟩ t w (.agg cs.toArray) := by
 obtain ⟨fs, v, h1, h2, h3, h4⟩ := hB
 unfold Rv
 cases hi : P.info? T with
 | none => simp [hi] at h2
 | some i =>
   have hz : i.zero = some v := by simpa [hi] using h2
   have hzv : (zeroValue T).run P w = .ok v w := by simp [zeroValue, typeInfo, hi, hz]
   have e : (Array.map (fun x => match x with | (i, x) => (i, ev t x)) parts).toList = parts.toList.map fun p => (p.1, ev t p.2) := by simp
   have hfl : Instr.fill (fun j => (pl.toArray)[j]?) v.cells (Array.map (fun x => match x with | (i, x) => (i, ev t x)) parts).toList = some cs.toArray := by
     rw [e, h3]; simpa using hf
   simp only [execOp, Instr.build, Sem.run_bind, hzv, Result.andThen_ok, run_underlying h1, h4 w, hfl]
   rfl
end
def RVok (P : Program) (w : World) (t : Fr) : ResultVar → Value → Prop
 | .tmp i, v => ev t (.tmp i) = v
 | .cell a T, v => ∃ p, ev t (.tmp a) = .pointer (some p) ∧ (loadVar T p).run P w = .ok v w
def RVs (P : Program) (w : World) (t : Fr) : List ResultVar → List Value → Prop
 | [], [] => True
 | r :: rs, v :: vs => RVok P w t r v ∧ RVs P w t rs vs
 | _, _ => False
def resv : List Value → Value
 | [v] => v
 | vs => .tuple vs.toArray
def resRV (a : Act) : ResultVar → Sem Value
 | .tmp t => pure (a.tmps.getD t undef)
 | .cell p T => do loadVar T (← asAddr (a.tmps.getD p undef))
theorem run_resM {P : Program} {N : Nat} {w : World} {t : Fr} (a : Act) (ha : Fm N t a) : ∀ (rs : List ResultVar) (vs : List Value), RVs P w t rs vs →
   (rs.mapM (resRV a)).run P w = .ok vs w
 | [], [], _ => by simp
 | [], _ :: _, h => h.elim
 | _ :: _, [], h => h.elim
 | r :: rs, v :: vs, ⟨h1, h2⟩ => by
   have ih := run_resM a ha rs vs h2
   rw [List.mapM_cons, Sem.run_bind]
   cases r with
   | tmp i =>
     have h1' : ev t (.tmp i) = v := h1
     have hg : a.tmps.getD i undef = ev t (.tmp i) := by rw [← ha.eval]; rfl
     show (((pure (a.tmps.getD i undef) : Sem Value)).run P w).andThen _ = _
     rw [hg, h1']
     simp only [Sem.run_pure, Result.andThen_ok, Sem.run_bind, ih]
   | cell p T =>
     obtain ⟨q, e1, hl⟩ := h1
     show ((do loadVar T (← asAddr (a.tmps.getD p undef)) : Sem Value).run P w).andThen _ = _
     have hg : a.tmps.getD p undef = ev t (.tmp p) := by rw [← ha.eval]; rfl
     rw [hg, e1]
     simp only [asAddr, Sem.run_bind, Sem.run_pure, Result.andThen_ok, hl, ih]
theorem resN {P : Program} {N : Nat} {w : World} {t : Fr} {fn : Func} {rs : List ResultVar} {vs : List Value} (hf : fn.results = rs.toArray) (h : RVs P w t rs vs) (a : Act) (ha : Fm N t a) : (results fn a.tmps).run P w = .ok (resv vs) w := by
 have h1 := run_resM a ha rs vs h
 have e : results fn a.tmps = (do let vs ← fn.results.mapM (resRV a); pure (if h : vs.size = 1 then vs[0] else .tuple vs)) := by
   unfold results
   congr 1
 rw [e, hf, Sem.run_bind, List.mapM_toArray, map_eq_pure_bind, Sem.run_bind, h1]
 simp only [Result.andThen_ok, Sem.run_pure]
 match vs with
 | [] => rfl
 | [v] => rfl
 | v :: u :: vs => rfl
section
variable {P : Program} {ρ : Option Nat} {N : Nat} {Q : Exit → Fr → World → Prop} {t : Fr} {w : World}
theorem rv_nil : RVs P w t [] [] := trivial
theorem rv_t {i : Nat} {rs : List ResultVar} {vs : List Value} (h : RVs P w t rs vs) : RVs P w t (.tmp i :: rs) (ev t (.tmp i) :: vs) := ⟨rfl, h⟩
theorem rv_c {a T b o n : Nat} {cs : List Value} {rs : List ResultVar} {vs : List Value} (hx : ev t (.tmp a) = .pointer (some ⟨b, o, none⟩)) (hT : Ag P T n) (hr : w.rangeAt b o cs) (hn : cs.length = n) (h : RVs P w t rs vs) : RVs P w t (.cell a T :: rs) (.agg cs.toArray :: vs) :=
 ⟨⟨⟨b, o, none⟩, hx, by obtain ⟨D, e2, e3, e4⟩ := hn ▸ hT; exact run_loadVar_mid (P := P) w b o T cs D hr e2 e3 e4⟩, h⟩
theorem rv_c1 {a T : Nat} {p : Addr} {v : Value} {rs : List ResultVar} {vs : List Value} (hx : ev t (.tmp a) = .pointer (some p)) (hT : Sc P T) (hc : w.cell? p = some v) (h : RVs P w t rs vs) : RVs P w t (.cell a T :: rs) (v :: vs) := by
 obtain ⟨D, h1, h2⟩ := hT
 refine ⟨⟨p, hx, ?_⟩, h⟩
 have hagg : (isAgg T).run P w = .ok false w := by
   unfold isAgg
   rw [Sem.run_bind, run_underlying h1 w]
   cases D <;> simp_all
 simp [loadVar, Sem.run_bind, hagg, hc]
section
variable {d : Option Nat} {ty : TypeId} {ps : String} {af : Array Edge} {g : Option (Nat × Bool)} {x y : Operand} {v : Value}
theorem mv (v : Value) (h : ev t x = v) : Rv P ⟨d, .move x, ty, ps, af, g⟩ t w v := h ▸ r_move
theorem sg (v : Value) (h : ev t x = v) : Rv P ⟨d, .assign x, ty, ps, af, g⟩ t w v := h ▸ r_assign
theorem pT {c : Operand} {b : Bool} (v : Value) (h : ev t x = v) (hc : ev t c = .bool b) (hb : b = true) : Rv P ⟨d, .pick c x y, ty, ps, af, g⟩ t w v := h ▸ r_pickT hc hb
theorem pF {c : Operand} {b : Bool} (v : Value) (h : ev t y = v) (hc : ev t c = .bool b) (hb : b = false) : Rv P ⟨d, .pick c x y, ty, ps, af, g⟩ t w v := h ▸ r_pickF hc hb
end
theorem v_ {ops : Array Oper} {d : Nat} {op : Op} {ty : TypeId} {ps : String} {af : Array Edge} {rest : List Oper} {v : Value} (hd : Nat.blt d N = true) (hr : Rv P ⟨some d, op, ty, ps, af, none⟩ t w v)
   (h : Wl P ρ N ops Q rest (upd t d v) w) : Wl P ρ N ops Q (⟨some d, op, ty, ps, af, none⟩ :: rest) t w := wl_val rfl hd hr h
theorem on_ {ops : Array Oper} {d : Nat} {op : Op} {ty : TypeId} {ps : String} {af : Array Edge} {j : Nat} {b c : Bool} {rest : List Oper} {v : Value}
   (hcb : c = b) (hy : yd ops t j = some c) (hd : Nat.blt d N = true) (hr : Rv P ⟨some d, op, ty, ps, af, some (j, b)⟩ t w v)
   (h : Wl P ρ N ops Q rest (upd t d v) w) : Wl P ρ N ops Q (⟨some d, op, ty, ps, af, some (j, b)⟩ :: rest) t w := wl_onv hy hcb hd hr h
theorem off_ {ops : Array Oper} {d : Nat} {op : Op} {ty : TypeId} {ps : String} {af : Array Edge} {j : Nat} {b c c' : Bool} {rest : List Oper}
   (hcc : c' = c) (hy : yd ops t j = some c') (hbc : (c == b) = false) (hd : Nat.blt d N = true)
   (h : Wl P ρ N ops Q rest (upd t d undef) w) : Wl P ρ N ops Q (⟨some d, op, ty, ps, af, some (j, b)⟩ :: rest) t w := wl_off hy hcc hbc hd h
theorem e_ {ops : Array Oper} {d : Nat} {op : Op} {ty : TypeId} {ps : String} {af : Array Edge} {rest : List Oper} (hd : Nat.blt d N = true)
   (h : Yd P ρ N ⟨some d, op, ty, ps, af, none⟩ t w fun v w' => Wl P ρ N ops Q rest (upd t d v) w') : Wl P ρ N ops Q (⟨some d, op, ty, ps, af, none⟩ :: rest) t w := wl_op rfl hd h
theorem s_ {ops : Array Oper} {op : Op} {ty : TypeId} {ps : String} {af : Array Edge} {rest : List Oper}
   (h : Yd P ρ N ⟨none, op, ty, ps, af, none⟩ t w fun _ w' => Wl P ρ N ops Q rest t w') : Wl P ρ N ops Q (⟨none, op, ty, ps, af, none⟩ :: rest) t w := wl_op rfl rfl h
theorem rg {id : Nat} {l : List Oper} {c : Code} (h : Wl P ρ N l.toArray (Thn (fun t w => Wc P ρ N Q c t w) Q) l t w) : Wc P ρ N Q (.seq (.region id l.toArray false) c) t w := wc_seq (wc_region h)
theorem nl {nx : Fr → World → Prop} {ops : Array Oper} (h : nx t w) : Wl P ρ N ops (Thn nx Q) [] t w := wl_nil h
end
end Go.Proofs.YtkndgkbgbmhjoaaGreatDoor.Gw
namespace Go.Proofs.YtkndgkbgbmhjoaaGreatDoor.Gw
open Go Go.RowKit
set_option linter.unusedSimpArgs false
set_option linter.unusedVariables false
section
variable {P : Program} {ρ : Option Nat} {N : Nat} {Q : Exit → Fr → World → Prop} {t : Fr} {w w0 : World} {X : Nat → Prop} {L M : List Rs} {R : Value → World → Prop} {d : Option Nat} {ty T T' : TypeId} {ps : String} {af : Array Edge} {g : Option (Nat × Bool)} {x y : Operand} {α : Type}
theorem calls_in {f : FuncId} {n : Nat} {fn : Func} {c : Code} {vs : List Value} (h1 : P.funcs[f]? = some fn) (h2 : fn.body = some c) (h3 : fn.ntmps = n) (h4 : vs.length ≤ n) (hs : Nat.ble n 1000000 = true)
   (h : Wc P none n (Fini P n fn R) c (t0 vs) w) : Calls P f vs.toArray w fun e w' => ∃ v, e = .returned v ∧ R v w' :=
 calls_of_wc h1 h2 h3 h4 (wc_mono h fun _ _ _ ⟨a, v, b⟩ => ⟨a, v, tk_mono (fun _ ⟨c, d⟩ => ⟨c, v, rfl, d⟩) _ _ b⟩) hs
theorem y_in {f : FuncId} {fn : Func} {c : Code} {xs : Array Operand} {as : Array TypeId} (n : Nat) (vs : List Value) (hf : En P f) (h1 : P.funcs[f]? = some fn) (h2 : fn.body = some c) (h3 : fn.ntmps = n) (h4 : Nat.ble vs.length n = true) (hv : xs.toList.map (ev t) = vs)
   (h : Wc P none n (Fini P n fn R) c (t0 vs) w) (hs : Nat.ble n 1000000 = true := by rfl) : Yd P ρ N ⟨d, .call ⟨.value (.func f), xs, as⟩, ty, ps, af, g⟩ t w R :=
 y_callL hf hv (calls_in h1 h2 h3 (Nat.le_of_ble_eq_true h4) hs h)
theorem y_inv {f : FuncId} {fn : Func} {c : Code} {xs : Array Operand} {as : Array TypeId} {cap : Array Value} (n : Nat) (vs : List Value) (hx : ev t x = .func (.func f) #[] cap) (hf : En P f) (h1 : P.funcs[f]? = some fn) (h2 : fn.body = some c) (h3 : fn.ntmps = n) (h4 : Nat.ble vs.length n = true) (hv : xs.toList.map (ev t) ++ cap.toList = vs)
   (h : Wc P none n (Fini P n fn R) c (t0 vs) w) (hs : Nat.ble n 1000000 = true := by rfl) : Yd P ρ N ⟨d, .call ⟨.value x, xs, as⟩, ty, ps, af, g⟩ t w R :=
 y_callvL hx hf hv (calls_in h1 h2 h3 (Nat.le_of_ble_eq_true h4) hs h)
theorem wc_seqJ {c c' : Code} (I : Fr → World → Prop) (h1 : Wc P ρ N (Thn I Q) c t w) (h2 : ∀ t w, I t w → Wc P ρ N Q c' t w) : Wc P ρ N Q (.seq c c') t w :=
 wc_seq (wc_mono h1 fun e t w h => by cases e <;> first | exact h | exact h2 t w h)
theorem y_J {o : Oper} (J : Value → World → Prop) (h1 : Yd P ρ N o t w J) (h2 : ∀ v w', J v w' → R v w') : Yd P ρ N o t w R := h1.mono h2
def Wu (P : Program) (ρ : Option Nat) (N : Nat) (Q : Exit → Fr → World → Prop) (c : Code) (t : Fr) (w : World) : Prop :=
 ∀ a, Fm N t a → ∀ b kk cs, b.roundOf = ρ → ∃ e a' w', (∃ t', Fm N t' a' ∧ NP e ∧ Q e t' w') ∧ ArrivesIn (Machine.fenced P (Fw ρ)) P (lone (b.atR a (.code c :: .inLoop c :: kk)) cs w) b kk cs e a' w'
theorem wc_unroll {c : Code} (h : Wu P ρ N Q c t w) : Wc P ρ N Q (.loop c) t w := by
 intro a ha b kk cs hro hb hr
 obtain ⟨e, a', w', hq, harr⟩ := h a ha b kk cs hro
 exact ⟨e, a', w', hq, .of_steps (.one (fenced_calm hb hr rfl) stepR_loop) harr⟩
theorem wu {c : Code} (h : Wc P ρ N (Thn (fun t w => Wu P ρ N Q c t w) Q) c t w) : Wu P ρ N Q c t w := by
 intro a ha b kk cs hro
 have hb : (Fw ρ).fn b.fn := trivial
 have hr : (Fw ρ).room (cs.length + 1 + 0) := fw_room _ _
 obtain ⟨e, a₁, w₁, ⟨t₁, f₁, np, hq⟩, harr⟩ := h a ha b (.inLoop c :: kk) cs hro hb hr
 cases e with
 | normal =>
   obtain ⟨e₂, a₂, w₂, hq₂, harr₂⟩ := hq a₁ f₁ b kk cs hro
   exact ⟨e₂, a₂, w₂, hq₂, .of_steps (StepsIn.trans harr (.one (fenced_calm hb hr rfl) stepR_inLoop)) harr₂⟩
 | exit id => exact ⟨_, a₁, w₁, ⟨t₁, f₁, np, hq⟩, .pass (x := .inLoop c) rfl (fun _ _ => .inl (by simp)) harr⟩
 | goto l => exact ⟨_, a₁, w₁, ⟨t₁, f₁, np, hq⟩, .pass (x := .inLoop c) rfl (fun _ _ => .inl (by simp)) harr⟩
 | ret => exact ⟨_, a₁, w₁, ⟨t₁, f₁, np, hq⟩, .pass (x := .inLoop c) rfl (fun _ _ => .inl (by simp)) harr⟩
 | panic ch => exact ⟨_, a₁, w₁, ⟨t₁, f₁, np, hq⟩, .pass (x := .inLoop c) rfl (fun _ _ => .inl (by simp)) harr⟩
 | outgrown => exact ⟨_, a₁, w₁, ⟨t₁, f₁, np, hq⟩, .pass (x := .inLoop c) rfl (fun _ _ => .inl (by simp)) harr⟩
theorem rv_eq {o : Oper} {v v' : Value} (h : Rv P o t w v) (e : v = v') : Rv P o t w v' := e ▸ h
def LitB (t : Fr) (sz : Nat) : Nat → List (Nat × Operand) → List Value → Prop
 | _, [], [] => True
 | i, (j, x) :: ps, cs => j = i ∧ (ev t x).cells = (cs.take sz).toArray ∧ (cs.take sz).length = sz ∧ LitB t sz (i + 1) ps (cs.drop sz)
 | _, _, _ => False
theorem fill_litB (t : Fr) (sz : Nat) : ∀ (ps : List (Nat × Operand)) (l : List Value) (i : Nat) (cs : Array Value), LitB t sz i ps l → cs.size = i * sz + l.length →
   Instr.fill (fun i => some (i * sz, sz)) cs (ps.map fun p => (p.1, ev t p.2)) = some ((cs.toList.take (i * sz) ++ l).toArray)
 | [], [], i, cs, _, hs => by
   simp only [List.map_nil, Instr.fill, Option.some.injEq]
   apply Array.ext'
   simp only [List.length_nil, Nat.add_zero] at hs
   simp [List.take_of_length_le (by simp; omega : cs.toList.length ≤ i * sz)]
 | [], _ :: _, _, _, h, _ => h.elim
 | (j, x) :: ps, l, i, cs, ⟨h1, h2, h4, h3⟩, hs => by
   subst h1
   have hz : (ev t x).cells.size = sz := by rw [h2]; simpa using h4
   have hl : sz ≤ l.length := by rw [List.length_take] at h4; omega
   simp only [List.map_cons, Instr.fill]
   rw [if_neg (by rw [hz]; intro hh; rcases (by simpa using hh : _) with hh; omega)]
   have key := setRun (j * sz) (l.take sz) 0 cs (by rw [h4]; omega)
   have e1 : (Array.foldl (fun cs x => match x with | (c, j_1) => cs.setIfInBounds (j * sz + j_1) c) cs (ev t x).cells.zipIdx) = (cs.toList.take (j * sz) ++ l.take sz ++ cs.toList.drop (j * sz + sz)).toArray := by
     apply Array.ext'
     rw [h2]
     have : (l.take sz).toArray.zipIdx = ((l.take sz).zipIdx).toArray := by simp
     rw [this, List.foldl_toArray]
     simpa [h4] using key
   have hj : (j + 1) * sz = j * sz + sz := by rw [Nat.add_mul]; omega
   rw [e1, fill_litB t sz ps (l.drop sz) (j + 1) _ h3 (by simp; rw [hj]; omega)]
   congr 1
   rw [hj]
   apply Array.ext'
   rw [List.take_append_of_le_length (by simp; omega), List.take_of_length_le (by simp; omega)]
   simp
theorem y_bsB {E by_ n sz : Nat} {zz : Value} {parts : Array (Nat × Operand)} {l : List Value} (hT : Sl P T E sz by_ zz) (H : St X w0 w L) (hn : l.length = n * sz) (hle : n * sz ≤ 16777216)
   (hf : LitB t sz 0 parts.toList l) (hn0 : 0 < n)
   (h : ∀ b w', St X w0 w' (L ++ [.blk b l.toArray E]) → R (.slice (some ⟨b, 0, none⟩) n n) w') : Yd P ρ N ⟨d, .buildSlice T n parts, ty, ps, af, g⟩ t w R := by
 obtain ⟨t1, i, t2, t3, t4, t5, t6, t7⟩ := hT
 have hne : ¬ (n * sz = 0) := by
   intro h0; rcases Nat.mul_eq_zero.1 h0 with h0 | h0 <;> omega
 have hf' := fill_litB t sz parts.toList l 0 ((Array.range (n * sz)).map (zz.cells[· % zz.cells.size]!)) hf (by simp [hn])
 simp only [Nat.zero_mul, List.take_zero, List.nil_append] at hf'
 have hrun : (Instr.buildSlice T n (parts.map fun (i, x) => (i, ev t x))).run P w = .ok (.slice (some ⟨w.heap.size, 0, none⟩) n n) (w.alloc (.cells l.toArray E)) := by
   unfold Instr.buildSlice
   have hle' : ¬ (16777216 < n * sz) := by omega
   simp only [Sem.run_bind, run_underlying t1, Result.andThen_ok]
   simp [sizeOf, typeInfo, t2, t3, hle', hne, zeroValue, t5]
   have hf'' : Instr.fill (fun i => some (i * sz, sz)) ((Array.range (n * sz)).map (zz.cells[· % zz.cells.size]!)) (parts.map fun (i, x) => (i, ev t x)).toList = some l.toArray := by
     rw [← hf']; congr 1; simp
   simp only [Array.toList_map] at hf''
   unfold Value.cells at hf''
   simp [hf'', newRow, go_sem]
 refine y_val (v := .slice (some ⟨w.heap.size, 0, none⟩) n n) (w' := w.alloc (.cells l.toArray E)) ?_ (h _ _ (H.box _ _))
 simp only [execOp, Sem.run_bind, hrun]; rfl
variable {dd : Nat} {xs ys : Array Value} {f : Field} {fs : List Field} {a b : Value} {r s : Bool}
end
section
variable {P : Program} {ρ : Option Nat} {N : Nat} {t : Fr} {w w0 : World} {X : Nat → Prop} {L : List Rs} {R : Value → World → Prop} {d : Option Nat} {ty T : TypeId} {ps : String} {af : Array Edge} {g : Option (Nat × Bool)} {x y : Operand} {α : Type}
theorem y_ldS0 {κ : Kd α} {l : List (List α)} {v : Value} {i : Int} (hT : Sc P T) (H : St X w0 w L) (h : Rd (.sl κ) w0 (Ol X w0) v l) (h0 : 0 ≤ i) (h1 : i < l.length) (hx : ev t x = .pointer (adr v (i.toNat * 1)))
   (hR : ∀ u, Rd κ w0 (Ol X w0) u (at_ [] l i) → R u w) : Yd P ρ N ⟨d, .load T x, ty, ps, af, g⟩ t w R := by
 obtain ⟨p, c, e1, h3, h4, h5⟩ := h
 have hg := at_get [] h0 h1
 rcases h5 with ⟨h5, _⟩ | ⟨b, o, h5, h6, h7⟩
 · subst h5; simp at h1; omega
 · subst e1; subst h5
   obtain ⟨cs, ⟨u, hk, hu⟩, hr⟩ := h7 _ _ hg
   subst hk
   exact y_val (r_load hT hx (rangeAt_keep (H.ch.block b h6.1 h6.2) hr 0 u rfl)) (hR u hu)
theorem setL_list : ∀ (vs : List Value) (o : Nat) (cs : Array Value), o + vs.length ≤ cs.size → (setL cs o vs).toList = cs.toList.take o ++ vs ++ cs.toList.drop (o + vs.length)
 | [], o, cs, _ => by simp [setL]
 | v :: vs, o, cs, h => by
   simp only [List.length_cons] at h
   rw [setL, setL_list vs (o + 1) _ (by simp; omega)]
   simp only [List.length_cons]
   rw [List.take_set, List.drop_set, if_pos (by omega)]
   rw [List.take_succ_eq_append_getElem (by simp; omega), List.set_append_right _ _ (by simp; omega)]
   have h2 : o - (List.take o cs.toList).length = 0 := by simp; omega
   rw [h2, show o + 1 + vs.length = o + (vs.length + 1) by omega]
   simp
theorem setL_size : ∀ (vs : List Value) (o : Nat) (cs : Array Value), (setL cs o vs).size = cs.size
 | [], _, _ => rfl
 | v :: vs, o, cs => by rw [setL, setL_size vs]; simp
end
section
variable {P : Program} {ρ : Option Nat} {N : Nat} {Q : Exit → Fr → World → Prop} {t : Fr} {w : World}
theorem yielded_none {ops : Array Oper} {a : Act} (ha : Fm N t a) {j : Nat} (h : yd ops t j = none) : yielded ops a.tmps j = none := by
 unfold yd at h; unfold yielded
 cases hd : (ops[j]?).bind (·.dst) with
 | none => simp
 | some d =>
   rw [hd] at h
   simp only [Option.bind_some] at h ⊢
   have hg : a.tmps.getD d undef = ev t (.tmp d) := by rw [← ha.eval]; rfl
   rw [Array.getD_eq_getD_getElem?] at hg
   cases hq : a.tmps[d]? with
   | none => rfl
   | some v => rw [hq] at hg; simp only [Option.getD_some] at hg; rw [hg]; revert h; cases ev t (.tmp d) <;> simp
theorem wa_offN {ops : Array Oper} {S : World → Prop} {ds : List Nat} {n : Nat} {l l' : Array Bool} {i j : Nat} {o : Oper} {b : Bool} (hi : ops[i]? = some o) (hg : o.guard = some (j, b)) (hy : yd ops t j = none) (hd : ok N o.dst = true)
   (hc : takeB ops ds l l' i = true) (hS : S w) (h : Wa P ρ N ops Q S ds n l' (updO t o.dst undef) w) : Wa P ρ N ops Q S ds (n + 1) l t w := by
 simp only [takeB, Bool.and_eq_true, beq_iff_eq] at hc
 obtain ⟨⟨⟨⟨⟨hnd, h1⟩, h0⟩, h2⟩, h3⟩, h4⟩ := hc
 intro a ha
 refine wpL_take hi h1 hnd (waitB_spec h0) h2 h3 (fun c _ _ h => h.elim fun _ h => (h.2.1 c rfl).elim) (.inr ⟨by simp [Region.wanted, hg, yielded_none ha hy], rfl⟩) hS ?_
 rw [h4]
 exact h _ (ha.put hd undef)
end
section
variable {P : Program} {ρ : Option Nat} {N : Nat} {Q : Exit → Fr → World → Prop} {t : Fr} {w : World}
theorem wa_oneOn {ops : Array Oper} {S : World → Prop} {ds : List Nat} {n : Nat} {l l' : Array Bool} {i j : Nat} {o : Oper} {b c : Bool} (hi : ops[i]? = some o) (hg : o.guard = some (j, b)) (hy' : yd ops t j = some c) (hcb : c = b) (hd : ok N o.dst = true)
   (hc : ((Region.ready .any ops l == [i]) && (l.setIfInBounds i true == l')) = true)
   (h : Yd P ρ N o t w fun v w' => (i ∉ ds → S w') ∧ Wa P ρ N ops Q S ds n l' (updO t o.dst v) w') : Wa P ρ N ops Q S ds (n + 1) l t w := by
 have hy : yd ops t j = some b := hcb ▸ hy'
 simp only [Bool.and_eq_true, beq_iff_eq] at hc
 obtain ⟨h1, h2⟩ := hc
 intro a ha
 refine ⟨fun h0 => (by rw [h1] at h0; cases h0), fun k hk => ?_⟩
 rw [h1, List.mem_singleton] at hk
 subst hk
 have hw : Region.wanted o (yielded ops a.tmps) = true := by simp [Region.wanted, hg, yielded_eq ha hy]
 unfold wpOpIn
 simp only [hi, hw, if_true]
 refine h a ha _ _ fun v w' ⟨s, r⟩ => ⟨s, ?_⟩
 rw [h2]
 exact r _ (ha.put hd v)
end
section
variable {P : Program} {ρ : Option Nat} {N : Nat} {t : Fr} {w : World} {d : Option Nat} {ty T : TypeId} {ps : String} {af : Array Edge} {g : Option (Nat × Bool)}
theorem r_mkf {fn : Fn} {ys : Array Operand} (us : List Value) (hy : ys.toList.map (ev t) = us) : Rv P ⟨d, .makeFunc fn #[] ys, ty, ps, af, g⟩ t w (.func fn #[] us.toArray) :=
 r_makeFunc (by simp) (by subst hy; apply Array.ext'; simp)
theorem resM {fn : Func} {rs : List ResultVar} {vs : List Value} {v : Value} (hf : fn.results = rs.toArray) (h : RVs P w t rs vs) (hv : resv vs = v) (a : Act) (ha : Fm N t a) : (results fn a.tmps).run P w = .ok v w :=
 hv ▸ resN hf h a ha
end
def Enc.fn : Enc Nat := ⟨1, fun n => [.func (.func n) #[] #[]], fun _ => rfl, fun a v h => by simp at h; subst h; rfl⟩
end Go.Proofs.YtkndgkbgbmhjoaaGreatDoor.Gw
namespace Go.Proofs.YtkndgkbgbmhjoaaGreatDoor.Gw
open Go Go.RowKit
set_option linter.unusedSimpArgs false
set_option linter.unusedVariables false
theorem all_int (k : IntKind) (l : List Int) : (Enc.int k).all l = l.map (Value.int k) := by
 induction l with
 | nil => rfl
 | cons x xs ih => rw [List.map_cons, ← ih]; rfl
def Rs.mp (P : Program) (K b : Nat) (l : List Int) : Rs where
 fp := fun x => x = b
 inv := fun w => ∃ n, w.ownsMap (H := Unit) P K unitElem b n (Maps.setOf (.agg []) (l.map fun x => Lit.int .i64 x)) ∧ n ≤ l.length
 loc := fun w w' h ⟨n, ⟨es, clock, hb, r⟩, hn⟩ => ⟨n, ⟨es, clock, (h b rfl).trans hb, r⟩, hn⟩
 bd := fun w ⟨n, h, _⟩ x e => by subst e; exact h.lt
section
variable {P : Program} {ρ : Option Nat} {N : Nat} {Q : Exit → Fr → World → Prop} {t : Fr} {w w0 : World} {X : Nat → Prop} {L : List Rs} {R : Value → World → Prop} {d : Option Nat} {ty T T' K E : TypeId} {ps : String} {af : Array Edge} {g : Option (Nat × Bool)} {x y z : Operand}
theorem y_mkMap (H : St X w0 w L) (K : TypeId) (h : ∀ b w', St X w0 w' (L ++ [.mp P K b []]) → R (.map (some b)) w') : Yd P ρ N ⟨d, .makeMap T none, ty, ps, af, g⟩ t w R :=
 y_val (v := .map (some w.heap.size)) (w' := w.alloc (.map #[] 0)) (by simp only [execOp, Option.map_none]; rfl)
   (h _ _ (H.new (.alloc _ _ _) ⟨0, World.ownsMap_made w P K unitElem, Nat.le_refl _⟩ (fun b e => by simp only [Rs.mp] at e; omega)))
theorem r_nilck {p : Addr} (hx : ev t x = .pointer (some p)) : Rv P ⟨d, .nilCheck x, ty, ps, af, g⟩ t w (.pointer (some p)) := by
 unfold Rv; simp only [execOp, hx]; rfl
theorem y_bs0 {α : Type} {e : Enc α} {by_ : Nat} {zz : Value} (hT : Sl P T E e.sz by_ zz) (H : St X w0 w L) (h : ∀ v w', St X w0 w' (L ++ [.own e E v []]) → R v w') : Yd P ρ N ⟨d, .buildSlice T 0 #[], ty, ps, af, g⟩ t w R := by
 obtain ⟨hu, i, hi, hs, _⟩ := hT
 refine y_val (v := .slice (some ⟨w.heap.size, 0, none⟩) 0 0) (w' := w.alloc (.cells #[] E)) ?_ (h _ _ (H.new (.alloc _ _ _) ?_ (fun b e => by simp only [Rs.own, Rs.row, Value.ownBlock, Option.some.injEq] at e; omega)))
 · simp [execOp, Instr.buildSlice, run_underlying hu, Sem.run_bind, sizeOf, typeInfo, hi, Instr.fill, newRow, go_sem]
 · refine ⟨by simp [Enc.all], .inr ⟨w.heap.size, 0, #[], rfl, Nat.zero_le _, ?_, Nat.le_refl _, Nat.zero_le _, by simp, by simp [Enc.all]⟩⟩
   show (w.heap.push _)[w.heap.size]? = _
   simp
theorem run_equalIn_snil (n : Nat) {p : Option Addr} {a c : Nat} (hT : P.underlying T = some (.slice E)) : (Op.equalIn (n + 1) T (.slice p a c) (.slice none 0 0)).run P w = .ok p.isNone w := by
 simp [Op.equalIn, run_underlying hT]
 cases p <;> rfl
theorem r_snil {p : Option Addr} {n c : Nat} (hT : P.underlying T = some (.slice E)) (hx : ev t x = .slice p n c) (hy : ev t y = .slice none 0 0) : Rv P ⟨d, .binOp .eql T x y T', ty, ps, af, g⟩ t w (.bool p.isNone) := by
 have h1 : (Op.equal T (.slice p n c) (.slice none 0 0)).run P w = .ok p.isNone w := run_equalIn_snil (w := w) 9999 hT
 unfold Rv; simp [execOp, hx, hy, eqGuard, binOp, Sem.run_bind, h1]
theorem own_form {α : Type} {e : Enc α} {v : Value} {l : List α} (h : (Rs.own e E v l).inv w) : ∃ p n c, v = .slice p n c := by
 rcases h.2 with ⟨h, _⟩ | ⟨b, cap, cur, h, _⟩
 · exact ⟨_, _, _, h⟩
 · exact ⟨_, _, _, h⟩
theorem rd_form {α : Type} {κ : Kd α} {F : Nat → Prop} {v : Value} {l : List α} (h : Rd κ w F v l) : ∃ p n c, v = .slice p n c := by
 obtain ⟨p, c, h, _⟩ := h
 exact ⟨_, _, _, h⟩
def RdAll {α : Type} (κ : Kd α) (w : World) (F : Nat → Prop) : List Value → List (List α) → Prop
 | [], [] => True
 | v :: vs, l :: ls => Rd κ w F v l ∧ RdAll κ w F vs ls
 | _, _ => False
theorem RdAll.get {α : Type} {κ : Kd α} {w : World} {F : Nat → Prop} : ∀ {vs : List Value} {ls : List (List α)}, RdAll κ w F vs ls → ∀ {i : Nat} {l : List α}, ls[i]? = some l → ∃ v, vs[i]? = some v ∧ Rd κ w F v l
 | [], [], _, i, l, h => by simp at h
 | v :: vs, l' :: ls, h, 0, l, hi => by simp at hi; subst hi; exact ⟨v, rfl, h.1⟩
 | v :: vs, l' :: ls, h, i + 1, l, hi => by
   simp only [List.getElem?_cons_succ] at hi ⊢
   exact RdAll.get h.2 hi
 | [], _ :: _, h, _, _, _ => h.elim
 | _ :: _, [], h, _, _, _ => h.elim
theorem rd_rows {α : Type} {κ : Kd α} {b n : Nat} {cs : Array Value} {ls : List (List α)} (H : St X w0 w L) (q : Nat) (hq : L[q]? = some (.blk b cs T)) (hn : ls.length = n) (hle : Nat.ble n 1000000 = true) (h : RdAll κ w (Ol no w) cs.toList ls) :
   Rd (.sl κ) w (Ol no w) (.slice (some ⟨b, 0, none⟩) n n) ls := by
 have hb := H.get q hq
 have hle' := Nat.le_of_ble_eq_true hle
 refine ⟨_, n, by rw [hn], by omega, by unfold maxLen; omega, .inr ⟨b, 0, rfl, ⟨(Rs.blk b cs T).bd w hb b rfl, fun x => x⟩, fun i x hx => ?_⟩⟩
 obtain ⟨v, hv, hr⟩ := h.get hx
 refine ⟨[v], ⟨v, rfl, hr⟩, fun j u hj => ?_⟩
 match j with
 | 0 =>
   simp at hj
   subst hj
   have : cs[i]? = some v := by rw [← hv]; simp
   have e1 : 0 + i * (Kd.sl κ).sz + 0 = i := by show 0 + i * 1 + 0 = i; omega
   rw [e1]
   exact blk_cell hb this
 | j + 1 => simp at hj
end
end Go.Proofs.YtkndgkbgbmhjoaaGreatDoor.Gw
