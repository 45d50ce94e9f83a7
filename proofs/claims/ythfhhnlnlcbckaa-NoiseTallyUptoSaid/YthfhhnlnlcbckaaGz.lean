/- How a law's row is closed: out of a contract that says 'true, and nothing old has turned'. -/
import Derived.Test.YthfhhnlnlcbckaaGq
import Derived.ProofKit
import Derived.Lib.SmallJoins
import Derived.SizedLaws
import Derived.Deep.Slices
namespace Go.Proofs.Ythfhhnlnlcbckaa.Gw
open Go Go.RowKit Go.Deep Go.ChangeShapes Go.WideShapes Go.ChangeAt

theorem below_trodAll {H : Type} {enc : TypeId × Value → H} {P : Program} (hl : laidOutB P = true) {W W' : World} (hb : Below W.heap.size W W') :
    ∀ (ts : List TypeId) (vs : List Value) (ds : List (DataW H)) (ps : List MemPlace), ts.all (fun t => P.readableRec t && Nat.blt t P.types.size) = true → DataW.TrodAll enc P W 0 (fun _ => true) true ts vs ds ps → (∀ x ∈ ps, x.block < W.heap.size) →
      DataW.TrodAll enc P W' 0 (fun b => decide (b < W.heap.size)) true ts vs ds ps
  | [], [], [], _, _, h, _ => h
  | t :: ts, v :: vs, d :: ds, ps, hr, ⟨p, q, h1, h2, h3⟩, hlt => by
    subst h3
    simp only [List.all_cons, Bool.and_eq_true] at hr
    exact ⟨p, q, Below.trod hl hr.1.1 (Nat.blt_eq ▸ hr.1.2) h1 hb (fun x hx => hlt x (List.mem_append_left _ hx)), below_trodAll hl hb ts vs ds q hr.2 h2 (fun x hx => hlt x (List.mem_append_right _ hx)), rfl⟩
  | [], [], _ :: _, _, _, h, _ => h.elim
  | [], _ :: _, _, _, _, h, _ => h.elim
  | _ :: _, [], _, _, _, h, _ => h.elim
  | _ :: _, _ :: _, [], _, _, h, _ => h.elim

/-- 'post' of a law: it answers true; its arguments read as they did. -/
theorem law_post {H : Type} {enc : TypeId × Value → H} {P : Program} {f : Func} {s : ChangeSpec} {fresh handsOn : Bool} {W W' : World} {args : Array Value} {ds gs : List (DataW H)} {before : List MemPlace} {tb : TypeId} (hl : laidOutB P = true)
    (hr : f.params.toList.all (fun t => P.readableRec t && Nat.blt t P.types.size) = true) (hres : f.resultTypes = #[tb]) (htb : P.underlying tb = some .bool) (hv : s.vars = [])
    (hW : DataW.Whole enc P f.params.toList s.vars false W args.toList ds gs before) (h1 : (s.fn H (ds ++ gs)).results = [.lit (.bool true)]) (h2 : (s.fn H (ds ++ gs)).args = ds) (h3 : (s.fn H (ds ++ gs)).vars = []) (hB : Below W.heap.size W W') :
    s.post enc P f false fresh handsOn false W args (.bool true) W' := by
  have hlt : ∀ x ∈ before, x.block < W.heap.size := fun x hx => by simpa using hW.lt x hx
  have hW' := hW
  obtain ⟨p, q, hA, hV, e, _, _⟩ := hW
  rw [hv] at hV
  obtain ⟨eg, eq⟩ := trodVars_none hV
  subst eg; subst eq
  rw [List.append_nil] at e; subst e
  refine ⟨ds, [], before, [], before, [], hW', ?_, ?_, ?_, hB.frame _, fun h => by cases h⟩
  · rw [h1, hres]
    exact trodAll_mk1 (shut_bool htb _)
  · rw [h2]; exact below_trodAll hl hB _ _ _ _ hr hA hlt
  · rw [h3, hv]; rfl
theorem wf_u8 {x : Int} (h : (Lit.int .u8 x).wf = true) : 0 ≤ x ∧ x ≤ 255 := by
  simp [Lit.wf, IntKind.min, IntKind.max, IntKind.signed, IntKind.bits] at h; omega
theorem wf_i8 {x : Int} (h : (Lit.int .i8 x).wf = true) : -128 ≤ x ∧ x ≤ 127 := by
  simp [Lit.wf, IntKind.min, IntKind.max, IntKind.signed, IntKind.bits] at h; omega
theorem wf_i64 {x : Int} (h : (Lit.int .i64 x).wf = true) : -9223372036854775808 ≤ x ∧ x ≤ 9223372036854775807 := by
  simp [Lit.wf, IntKind.min, IntKind.max, IntKind.signed, IntKind.bits] at h; omega
/-! ### Slices that came in -/
section
variable {H : Type} {enc : TypeId × Value → H} {P : Program} {W : World}
/-- How an element reads. -/
def Opn {α : Type} (enc : TypeId × Value → H) (P : Program) (W : World) (e : Enc α) (E : TypeId) (G : α → Prop) : Prop :=
  ∀ fuel cs x, DataW.trod enc P W 0 (fun _ => true) true fuel E cs = some x → ∃ a, cs = e.en a ∧ G a
theorem opn_int {E : TypeId} {k : IntKind} (h : P.underlying E = some (.int k)) : Opn enc P W (.int k) E (fun a => (Lit.int k a).wf = true) := by
  intro fuel cs x hx
  obtain ⟨n, rfl, _, hw⟩ := DataW.trod_int h hx
  exact ⟨n, rfl, hw⟩
theorem opn_bool {E : TypeId} (h : P.underlying E = some .bool) : Opn enc P W .bool E (fun _ => True) := by
  intro fuel cs x hx
  obtain ⟨n, rfl, _⟩ := DataW.trod_bool h hx
  exact ⟨n, rfl, trivial⟩
theorem opn_st2 {α0 α1 : Type} {e0 : Enc α0} {e1 : Enc α1} {G0 : α0 → Prop} {G1 : α1 → Prop} {t : TypeId} {f0 f1 : Field} (hs : P.underlying t = some (.struct #[f0, f1])) (hone : oneCellFields P #[f0, f1] = true) (hC : P.cellsOf t = 2) (o0 : Opn enc P W e0 f0.type G0) (o1 : Opn enc P W e1 f1.type G1) :
    Opn enc P W (.pr e0 e1) t (fun a : α0 × α1 => G0 (a.1) ∧ G1 (a.2)) := by
  intro fuel cs x h
  obtain ⟨y0, y1, m, hx, hl, h0, h1⟩ := trod_struct2 hs h
  rw [hC] at hl
  match cs, hl with
  | [c0, c1], _ =>
    obtain ⟨p0, k0⟩ := Go.Deep.hone_of hone 0 f0 rfl
    obtain ⟨a0, q0, g0⟩ := o0 _ _ _ (show DataW.trod enc P W 0 (fun _ => true) true m f0.type [c0] = some y0 by simpa [p0, k0] using h0)
    obtain ⟨p1, k1⟩ := Go.Deep.hone_of hone 1 f1 rfl
    obtain ⟨a1, q1, g1⟩ := o1 _ _ _ (show DataW.trod enc P W 0 (fun _ => true) true m f1.type [c1] = some y1 by simpa [p1, k1] using h1)
    exact ⟨(a0, a1), by simp [Enc.pr, ← q0, ← q1], g0, g1⟩
theorem opn_st3 {α0 α1 α2 : Type} {e0 : Enc α0} {e1 : Enc α1} {e2 : Enc α2} {G0 : α0 → Prop} {G1 : α1 → Prop} {G2 : α2 → Prop} {t : TypeId} {f0 f1 f2 : Field} (hs : P.underlying t = some (.struct #[f0, f1, f2])) (hone : oneCellFields P #[f0, f1, f2] = true) (hC : P.cellsOf t = 3) (o0 : Opn enc P W e0 f0.type G0) (o1 : Opn enc P W e1 f1.type G1) (o2 : Opn enc P W e2 f2.type G2) :
    Opn enc P W (.pr e0 (.pr e1 e2)) t (fun a : α0 × α1 × α2 => G0 (a.1) ∧ G1 (a.2.1) ∧ G2 (a.2.2)) := by
  intro fuel cs x h
  obtain ⟨y0, y1, y2, m, hx, hl, h0, h1, h2⟩ := trod_struct3 hs h
  rw [hC] at hl
  match cs, hl with
  | [c0, c1, c2], _ =>
    obtain ⟨p0, k0⟩ := Go.Deep.hone_of hone 0 f0 rfl
    obtain ⟨a0, q0, g0⟩ := o0 _ _ _ (show DataW.trod enc P W 0 (fun _ => true) true m f0.type [c0] = some y0 by simpa [p0, k0] using h0)
    obtain ⟨p1, k1⟩ := Go.Deep.hone_of hone 1 f1 rfl
    obtain ⟨a1, q1, g1⟩ := o1 _ _ _ (show DataW.trod enc P W 0 (fun _ => true) true m f1.type [c1] = some y1 by simpa [p1, k1] using h1)
    obtain ⟨p2, k2⟩ := Go.Deep.hone_of hone 2 f2 rfl
    obtain ⟨a2, q2, g2⟩ := o2 _ _ _ (show DataW.trod enc P W 0 (fun _ => true) true m f2.type [c2] = some y2 by simpa [p2, k2] using h2)
    exact ⟨(a0, a1, a2), by simp [Enc.pr, ← q0, ← q1, ← q2], g0, g1, g2⟩
theorem opn_st4 {α0 α1 α2 α3 : Type} {e0 : Enc α0} {e1 : Enc α1} {e2 : Enc α2} {e3 : Enc α3} {G0 : α0 → Prop} {G1 : α1 → Prop} {G2 : α2 → Prop} {G3 : α3 → Prop} {t : TypeId} {f0 f1 f2 f3 : Field} (hs : P.underlying t = some (.struct #[f0, f1, f2, f3])) (hone : oneCellFields P #[f0, f1, f2, f3] = true) (hC : P.cellsOf t = 4) (o0 : Opn enc P W e0 f0.type G0) (o1 : Opn enc P W e1 f1.type G1) (o2 : Opn enc P W e2 f2.type G2) (o3 : Opn enc P W e3 f3.type G3) :
    Opn enc P W (.pr e0 (.pr e1 (.pr e2 e3))) t (fun a : α0 × α1 × α2 × α3 => G0 (a.1) ∧ G1 (a.2.1) ∧ G2 (a.2.2.1) ∧ G3 (a.2.2.2)) := by
  intro fuel cs x h
  obtain ⟨y0, y1, y2, y3, m, hx, hl, h0, h1, h2, h3⟩ := Go.Joins.trod_struct4 hs h
  rw [hC] at hl
  match cs, hl with
  | [c0, c1, c2, c3], _ =>
    obtain ⟨p0, k0⟩ := Go.Deep.hone_of hone 0 f0 rfl
    obtain ⟨a0, q0, g0⟩ := o0 _ _ _ (show DataW.trod enc P W 0 (fun _ => true) true m f0.type [c0] = some y0 by simpa [p0, k0] using h0)
    obtain ⟨p1, k1⟩ := Go.Deep.hone_of hone 1 f1 rfl
    obtain ⟨a1, q1, g1⟩ := o1 _ _ _ (show DataW.trod enc P W 0 (fun _ => true) true m f1.type [c1] = some y1 by simpa [p1, k1] using h1)
    obtain ⟨p2, k2⟩ := Go.Deep.hone_of hone 2 f2 rfl
    obtain ⟨a2, q2, g2⟩ := o2 _ _ _ (show DataW.trod enc P W 0 (fun _ => true) true m f2.type [c2] = some y2 by simpa [p2, k2] using h2)
    obtain ⟨p3, k3⟩ := Go.Deep.hone_of hone 3 f3 rfl
    obtain ⟨a3, q3, g3⟩ := o3 _ _ _ (show DataW.trod enc P W 0 (fun _ => true) true m f3.type [c3] = some y3 by simpa [p3, k3] using h3)
    exact ⟨(a0, a1, a2, a3), by simp [Enc.pr, ← q0, ← q1, ← q2, ← q3], g0, g1, g2, g3⟩
theorem open_rd {α : Type} {e : Enc α} {G : α → Prop} {E T base by_ : Nat} {v : Value} {d : DataW H} {p : List MemPlace} (hT : P.underlying T = some (.slice E)) (hc : P.cellsOf E = e.sz) (hB : P.bytesOf E = by_) (ho : Opn enc P W e E G)
    (hv : Value.okWide P W .any base T v) (h : DataW.Trod enc P W 0 (fun _ => true) true T v d p) {ts : List TypeId} {ds : List (DataW H)} (hw : (DataW.weightsEach P ts ds).all (· ≤ reachBytes) = true) (j : Nat) (ht : ts[j]? = some T) (hd : ds[j]? = some d) :
    ∃ l, Rd (.of e) W (Ol no W) v l ∧ l.length * by_ ≤ 140737488351232 ∧ ∀ a ∈ l, G a := by
  obtain ⟨p0, len, cap, rfl⟩ := okWide_slice hT hv
  obtain ⟨fuel, hf⟩ := h
  rcases Go.Deep.open_slice hT hf with ⟨h1, h2⟩ | ⟨a, len', cap', m, n, D, Pl, h1, hb, hl, hm, hmm, h2, hx⟩
  · have h1' : Value.slice p0 len cap = .slice none 0 0 := by simpa [Value.cells] using h1
    cases h1'
    exact ⟨[], Rd.nil _ _ _, by simp, by simp⟩
  · have h1' : Value.slice p0 len cap = .slice (some a) len' cap' := by simpa [Value.cells] using h1
    cases h1'
    have hok : Cell.ok P W .any base T (.slice (some a) len cap) := by
      simp only [Value.okWide, hT, Cell.okWide] at hv
      exact hv
    simp only [Cell.ok, hT] at hok
    obtain ⟨_, _, _, hs, row, cells, hsh, _⟩ := hok
    have hbl : a.block < W.heap.size := by
      rcases Nat.lt_or_ge a.block W.heap.size with h | h
      · exact h
      · unfold World.shape? at hsh
        rw [Array.getElem?_eq_none h] at hsh; cases hsh
    have hlm : len ≤ m := by rw [hmm]; split <;> omega
    have hA : ∀ i, i < len → ∃ x, G x ∧ W.rangeAt a.block (a.off + i * e.sz) (e.en x) := fun i hi => by
      obtain ⟨cs', c1, c2⟩ := hx i (by omega)
      obtain ⟨x, rfl, hg⟩ := ho _ _ _ c2
      obtain ⟨_, hlen, hget⟩ := World.cells?_some c1
      refine ⟨x, hg, fun j u hj => ?_⟩
      have hj' : j < (e.en x).length := (List.getElem?_eq_some_iff.1 hj).1
      have := hget j (by omega)
      rw [← hc]
      obtain ⟨b, o, s⟩ := a
      cases hs
      simp only [Addr.add_mid] at this
      rw [← hj]; exact this
    have hget : ∀ i x, (List.ofFn fun i : Fin len => Classical.choose (hA i.1 i.2))[i]? = some x → i < len ∧ G x ∧ W.rangeAt a.block (a.off + i * e.sz) (e.en x) := by
      intro i x hi
      rw [List.getElem?_ofFn] at hi
      split at hi
      · rename_i h
        cases hi
        exact ⟨h, Classical.choose_spec (hA i h)⟩
      · cases hi
    refine ⟨List.ofFn fun i : Fin len => Classical.choose (hA i.1 i.2), ⟨some a, cap, by rw [List.length_ofFn], by rw [List.length_ofFn]; exact hl, hm, .inr ⟨a.block, a.off, by obtain ⟨b, o, s⟩ := a; cases hs; rfl, ⟨hbl, fun x => x⟩, fun i x hi => ?_⟩⟩, ?_, ?_⟩
    · exact ⟨e.en x, rfl, (hget i x hi).2.2⟩
    · rw [List.length_ofFn]
      have hd' : ds[j]? = some (.slice ((List.range len).map D) ((List.range (m - len)).map fun j => D (len + j))) := by rw [hd]; exact congrArg _ (by simpa using congrArg Prod.fst h2)
      have := sized_slice hw ht hd' hT
      rw [hB] at this
      simp at this
      have h3 : len * by_ ≤ (len + (m - len)) * by_ := Nat.mul_le_mul_right _ (by omega)
      unfold reachBytes at this
      omega
    · intro x hx'
      obtain ⟨i, hi⟩ := List.mem_iff_getElem?.1 hx'
      exact (hget i x hi).2.1
end
end Go.Proofs.Ythfhhnlnlcbckaa.Gw
