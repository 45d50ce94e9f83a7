/- What the printed walks use. -/
import Derived.Test.YthfhhnlnlcbckaaGt
namespace Go.Proofs.Ythfhhnlnlcbckaa.Gw
open Go Go.RowKit
set_option linter.unusedSimpArgs false
set_option linter.unusedVariables false

/-! ### Frames at a loop's head -/
def upds (t : Fr) : List (Nat × Value) → Fr
  | [] => t
  | (i, v) :: l => upds (upd t i v) l
def Ags (t : Fr) : List (Nat × Value) → Prop
  | [] => True
  | (i, v) :: l => t i = v ∧ Ags t l
theorem upd_self (t : Fr) (i : Nat) : upd t i (t i) = t := by
  funext j; unfold upd
  cases h : Nat.beq j i
  · rfl
  · rw [Nat.eq_of_beq_eq_true h]; rfl
theorem upds_eq {t : Fr} : ∀ {l : List (Nat × Value)}, Ags t l → t = upds t l
  | [], _ => rfl
  | (i, v) :: l, ⟨h1, h2⟩ => by
    unfold upds; rw [← h1, upd_self]; exact upds_eq h2

/-! ### The pure side -/
theorem bind_some {α β : Type} {o : Option α} {f : α → Option β} {r : β} (h : o.bind f = some r) : ∃ x, o = some x ∧ f x = some r := by
  cases o with
  | none => cases h
  | some x => exact ⟨x, rfl, h⟩
/-- It goes on only if b. -/
def grd {α : Type} (b : Bool) (x : Option α) : Option α := bif b then x else none
theorem grd_some {α : Type} {p : Prop} [Decidable p] {x : Option α} {r : α} (h : grd (decide p) x = some r) : p ∧ x = some r := by
  unfold grd at h
  by_cases hp : p
  · simp only [hp, decide_true, cond_true] at h; exact ⟨hp, h⟩
  · simp only [hp, decide_false, cond_false] at h; cases h
theorem iT {α : Type} {b : Bool} {x y : Option α} {r : α} (h : b = true) (H : (bif b then x else y) = some r) : x = some r := by rw [h] at H; exact H
theorem iF {α : Type} {b : Bool} {x y : Option α} {r : α} (h : b = false) (H : (bif b then x else y) = some r) : y = some r := by rw [h] at H; exact H

section
variable {P : Program} {ρ : Option Nat} {N : Nat} {Q : Exit → Fr → World → Prop} {nx : Fr → World → Prop} {t : Fr} {w w0 : World} {X : Nat → Prop} {L M : List Rs}
/-! ### Where an exit comes to -/
theorem n_thn (h : nx t w) : Thn nx Q .normal t w := h
theorem n_bk {i : Nat} (h : Q .normal t w) : Bk i Q .normal t w := h
theorem r_thn (h : Q .ret t w) : Thn nx Q .ret t w := h
theorem r_bk {i : Nat} (h : Q .ret t w) : Bk i Q .ret t w := h
theorem x_thn {i : Nat} (h : Q (.exit i) t w) : Thn nx Q (.exit i) t w := h
theorem x_bk {i : Nat} (h : Q .normal t w) : Bk i Q (.exit i) t w := by simp only [Bk, if_true]; exact h
theorem x_bkne {i j : Nat} (hij : (i == j) = false) (h : Q (.exit i) t w) : Bk j Q (.exit i) t w := by
  simp only [Bk]; rw [if_neg (by simpa using hij)]; exact h

/-! ### Things -/
theorem St.app {w' : World} (H : St X w0 w L) (K : St no w w' M) : St X w0 w' (L ++ M) := by
  have h1 := H.call K.ch
  refine ⟨h1.ch, fun r hr => ?_, fun r hr b hb => ?_, ?_⟩
  · rcases List.mem_append.1 hr with h | h
    · exact h1.inv r h
    · exact K.inv r h
  · rcases List.mem_append.1 hr with h | h
    · exact h1.fp r h b hb
    · exact .inl (Nat.le_trans H.ch.size ((K.fp r h b hb).resolve_right (fun x => x)))
  · rw [List.pairwise_append]
    refine ⟨H.dj, K.dj, fun a ha s hs b h1 h2 => ?_⟩
    have := a.bd w (H.inv a ha) b h1
    have := (K.fp s hs b h2).resolve_right (fun x => x)
    omega
theorem St.pre (H : St X w0 w (L ++ M)) : St X w0 w L :=
  ⟨H.ch, fun r hr => H.inv r (List.mem_append_left _ hr), fun r hr => H.fp r (List.mem_append_left _ hr), (List.pairwise_append.1 H.dj).1⟩
/-- A call that made its thing i anew, and others. -/
theorem St.appX {w' : World} {r r' : Rs} (H : St X w0 w L) (i : Nat) (hi : L[i]? = some r) (K : St r.fp w w' (r' :: M)) : St X w0 w' (L.set i r' ++ M) := by
  have hr' : ∀ b, r'.fp b → r.fp b ∨ w.heap.size ≤ b := fun b hb => (K.fp r' List.mem_cons_self b hb).symm
  have h1 := H.put i hi K.ch (K.inv r' List.mem_cons_self) hr'
  have old : ∀ a ∈ L.set i r', ∀ b, a.fp b → b < w.heap.size ∨ r'.fp b := by
    intro a ha b hb
    rcases List.mem_or_eq_of_mem_set ha with h | h
    · exact .inl (a.bd w (H.inv a h) b hb)
    · subst h; exact .inr hb
  refine ⟨h1.ch, fun s hs => ?_, fun s hs b hb => ?_, ?_⟩
  · rcases List.mem_append.1 hs with h | h
    · exact h1.inv s h
    · exact K.inv s (List.mem_cons_of_mem _ h)
  · rcases List.mem_append.1 hs with h | h
    · exact h1.fp s h b hb
    · rcases K.fp s (List.mem_cons_of_mem _ h) b hb with h2 | h2
      · exact .inl (Nat.le_trans H.ch.size h2)
      · exact H.fp r (List.mem_of_getElem? hi) b h2
  · rw [List.pairwise_append]
    refine ⟨h1.dj, (List.pairwise_cons.1 K.dj).2, fun a ha s hs b h2 h3 => ?_⟩
    have hs' := List.mem_cons_of_mem r' hs
    by_cases har : r'.fp b
    · exact (List.pairwise_cons.1 K.dj).1 s hs b har h3
    · -- a is an old thing other than thing i
      have hlt := (old a ha b h2).resolve_right har
      rcases K.fp s hs' b h3 with h4 | h4
      · omega
      · rcases List.mem_or_eq_of_mem_set ha with h5 | h5
        · obtain ⟨j, hj, e⟩ := List.getElem_of_mem ha
          rw [List.getElem_set] at e
          have hj' : j < L.length := by simpa using hj
          by_cases hij : i = j
          · rw [if_pos hij] at e; exact har (e ▸ h2)
          · rw [if_neg hij] at e
            exact H.apart j i (fun e => hij e.symm) (List.getElem?_eq_getElem hj') hi b (by rw [e]; exact h2) h4
        · exact har (h5 ▸ h2)
theorem St.sel (H : St X w0 w L) (is : List Nat) (h : is.map (fun i => L[i]?) = M.map some) (hn : decide is.Nodup = true) : St X w0 w M := by
  have hm : ∀ (is : List Nat) (M : List Rs), is.map (fun i => L[i]?) = M.map some → ∀ r ∈ M, ∃ i ∈ is, L[i]? = some r := by
    intro is M h r hr
    have : some r ∈ is.map (fun i => L[i]?) := h ▸ List.mem_map_of_mem hr
    obtain ⟨i, hi, e⟩ := List.mem_map.1 this
    exact ⟨i, hi, e⟩
  refine ⟨H.ch, fun r hr => ?_, fun r hr => ?_, ?_⟩
  · obtain ⟨i, _, e⟩ := hm _ _ h r hr; exact H.get i e
  · obtain ⟨i, _, e⟩ := hm _ _ h r hr; exact H.fp r (List.mem_of_getElem? e)
  · replace hn := of_decide_eq_true hn
    revert hn h
    induction is generalizing M with
    | nil => intro h _; cases M with
      | nil => exact .nil
      | cons a M => cases h
    | cons i is ih =>
      intro h hn
      cases M with
      | nil => cases h
      | cons r M =>
        simp only [List.map_cons, List.cons.injEq] at h
        refine List.pairwise_cons.2 ⟨fun s hs => ?_, ih h.2 (List.nodup_cons.1 hn).2⟩
        obtain ⟨j, hj, e⟩ := hm _ _ h.2 s hs
        exact H.apart i j (fun e => (List.nodup_cons.1 hn).1 (e ▸ hj)) h.1 e
/-- Blocks of old that are not X's. -/
def Ol (X : Nat → Prop) (w : World) : Nat → Prop := fun b => b < w.heap.size ∧ ¬ X b
theorem St.rd {α : Type} {κ : Kd α} {v : Value} {l : List α} (H : St X w0 w L) (h : Rd κ w0 (Ol X w0) v l) : Rd κ w (Ol X w0) v l :=
  h.keep fun b hb => H.ch.block b hb.1 hb.2
theorem St.arg {α : Type} {κ : Kd α} {v : Value} {l : List α} (H : St X w0 w L) (h : Rd κ w (Ol X w0) v l) : Rd κ w (Ol no w) v l :=
  h.mono fun _ hb => ⟨Nat.lt_of_lt_of_le hb.1 H.ch.size, fun x => x⟩
theorem St.argX {α : Type} {κ : Kd α} {v : Value} {l : List α} (H : St X w0 w L) (i : Nat) {r : Rs} (hi : L[i]? = some r) (h : Rd κ w (Ol X w0) v l) : Rd κ w (Ol r.fp w) v l :=
  h.mono fun b hb => ⟨Nat.lt_of_lt_of_le hb.1 H.ch.size, fun x => hb.2 ((H.fp r (List.mem_of_getElem? hi) b x).resolve_left (by have := hb.1; omega))⟩
theorem St.own {α : Type} {κ : Kd α} {v : Value} {l : List α} (H : St X w0 w L) (q : Nat) {s : Rs} (hq : L[q]? = some s) (h : Rd κ w s.fp v l) : Rd κ w (Ol no w) v l :=
  h.mono fun b hb => ⟨s.bd w (H.get q hq) b hb, fun x => x⟩
theorem St.ownX {α : Type} {κ : Kd α} {v : Value} {l : List α} (H : St X w0 w L) (q i : Nat) {s r : Rs} (hq : L[q]? = some s) (hi : L[i]? = some r) (hne : (q == i) = false) (h : Rd κ w s.fp v l) : Rd κ w (Ol r.fp w) v l :=
  h.mono fun b hb => ⟨s.bd w (H.get q hq) b hb, H.apart q i (by simpa using hne) hq hi b hb⟩

theorem blk_range {b o n : Nat} {cs : Array Value} {T : TypeId} {l : List Value} (h : (Rs.blk b cs T).inv w) (hl : (cs.toList.drop o).take n = l) : w.rangeAt b o l := by
  intro j v hv
  refine blk_cell h ?_
  rw [← hl, List.getElem?_take] at hv
  split at hv
  · rw [List.getElem?_drop] at hv; simpa using hv
  · cases hv
/-- Several cells of a block, one behind the other. -/
def setL (cs : Array Value) : Nat → List Value → Array Value
  | _, [] => cs
  | o, v :: l => setL (cs.toList.set o v).toArray (o + 1) l
theorem blk_setL {b : Nat} {T : TypeId} : ∀ (l : List Value) (o : Nat) (cs : Array Value) (w : World), (Rs.blk b cs T).inv w → (Rs.blk b (setL cs o l) T).inv (w.setCells b o l)
  | [], _, _cs, _w, h => h
  | v :: l, o, _cs, _w, h => blk_setL l (o + 1) _ _ (by have := blk_set (o := o) v h; rwa [show _cs.setIfInBounds o v = (_cs.toList.set o v).toArray from by apply Array.ext'; simp] at this)
theorem ch_setL {b : Nat} : ∀ (l : List Value) (o : Nat) (w : World), Ch (fun x => x = b) w (w.setCells b o l)
  | [], _, _ => .refl _ _
  | v :: l, o, w => Ch.trans (X := fun x => x = b) (Ch.set (X := fun x => x = b) w ⟨b, o, none⟩ v rfl) (ch_setL l (o + 1) _)

variable {R : Value → World → Prop} {d : Option Nat} {ty T T' : TypeId} {ps : String} {af : Array Edge} {g : Option (Nat × Bool)} {x y : Operand}
theorem y_boxS {cs : Array Value} (H : St X w0 w L) (hx : (ev t x).cells = cs) (h : ∀ b w', St X w0 w' (L ++ [.blk b cs T]) → R (.pointer (some ⟨b, 0, none⟩)) w') : Yd P ρ N ⟨d, .box T x, ty, ps, af, g⟩ t w R :=
  y_box hx (h _ _ (H.box cs T))
def Zr (P : Program) (T : TypeId) (cs : Array Value) : Prop := ∃ v, (P.info? T).bind (·.zero) = some v ∧ v.cells = cs
theorem y_allocS {cs : Array Value} (hz : Zr P T cs) (H : St X w0 w L) (h : ∀ b w', St X w0 w' (L ++ [.blk b cs T]) → R (.pointer (some ⟨b, 0, none⟩)) w') : Yd P ρ N ⟨d, .alloc T, ty, ps, af, g⟩ t w R := by
  obtain ⟨v, h1, h2⟩ := hz
  exact y_alloc h1 h2 (h _ _ (H.box cs T))
theorem y_storeB {b o : Nat} {cs : Array Value} {v old : Value} {T0 : TypeId} (hT : Sz P T 1) (H : St X w0 w L) (i : Nat) (hi : L[i]? = some (.blk b cs T0)) (hx : ev t x = .pointer (some ⟨b, o, none⟩)) (hy : (ev t y).cells = #[v]) (h1 : v.oneCell' = true)
    (hc : cs[o]? = some old) (h : ∀ w', St X w0 w' (L.set i (.blk b (cs.toList.set o v).toArray T0)) → R undef w') : Yd P ρ N ⟨d, .store T x y, ty, ps, af, g⟩ t w R :=
  y_store hT hx hy h1 (blk_cell (H.get i hi) hc) (blk_frozen (H.get i hi)) (h _ (by have := H.store i hi o v; rwa [show cs.setIfInBounds o v = (cs.toList.set o v).toArray from by apply Array.ext'; simp] at this))
theorem y_storeBA {b o n : Nat} {cs as : Array Value} {T0 : TypeId} (hT : Sz P T n) (H : St X w0 w L) (i : Nat) (hi : L[i]? = some (.blk b cs T0)) (hx : ev t x = .pointer (some ⟨b, o, none⟩)) (hy : ev t y = .agg as) (hn : as.size = n) (h1' : as.toList.all (·.oneCell') = true)
    (hc : Nat.ble (o + as.size) cs.size = true) (h : ∀ w', St X w0 w' (L.set i (.blk b (setL cs o as.toList) T0)) → R undef w') : Yd P ρ N ⟨d, .store T x y, ty, ps, af, g⟩ t w R := by
  subst hn
  have h1 : as.all (·.oneCell') = true := by rw [← h1', Array.all_toList]
  have hc' : o + as.size ≤ cs.size := Nat.le_of_ble_eq_true hc
  refine y_storeA hT hx hy (fun j hj => ⟨?_, blk_frozen (H.get i hi)⟩) h1 (h _ (H.put i hi (ch_setL _ _ _) (blk_setL _ _ _ _ (H.get i hi)) (fun _ hb => .inl hb)))
  rw [blk_cell (H.get i hi) (Array.getElem?_eq_getElem (by omega))]; rfl
theorem r_loadB {b o n : Nat} {cs : Array Value} {T0 : TypeId} {l : List Value} (hT : Ag P T n) (h : (Rs.blk b cs T0).inv w) (hx : ev t x = .pointer (some ⟨b, o, none⟩)) (hl : (cs.toList.drop o).take n = l) (hn : l.length = n) : Rv P ⟨d, .load T x, ty, ps, af, g⟩ t w (.agg l.toArray) := by
  subst hn
  exact r_loadA hT hx (blk_range h hl)
theorem y_callL {f : FuncId} {xs : Array Operand} {as : Array TypeId} {vs : List Value} (hf : En P f) (hv : xs.toList.map (ev t) = vs) (h : Calls P f vs.toArray w fun e w'' => ∃ v, e = .returned v ∧ R v w'') :
    Yd P ρ N ⟨d, .call ⟨.value (.func f), xs, as⟩, ty, ps, af, g⟩ t w R :=
  y_call hf (vs := vs.toArray) (by subst hv; apply Array.ext'; simp) h
theorem y_callvL {f : FuncId} {xs : Array Operand} {as : Array TypeId} {vs : List Value} {cap : Array Value} (hx : ev t x = .func (.func f) #[] cap) (hf : En P f) (hv : xs.toList.map (ev t) ++ cap.toList = vs) (h : Calls P f vs.toArray w fun e w'' => ∃ v, e = .returned v ∧ R v w'') :
    Yd P ρ N ⟨d, .call ⟨.value x, xs, as⟩, ty, ps, af, g⟩ t w R :=
  y_callv hx hf (vs := vs.toArray) (by subst hv; apply Array.ext'; simp) h
end

/-! ### Literals -/
theorem setRun (o : Nat) : ∀ (vs : List Value) (k : Nat) (cs : Array Value), o + k + vs.length ≤ cs.size →
    ((vs.zipIdx k).foldl (fun (cs : Array Value) (p : Value × Nat) => cs.setIfInBounds (o + p.2) p.1) cs).toList = cs.toList.take (o + k) ++ vs ++ cs.toList.drop (o + k + vs.length)
  | [], k, cs, _ => by simp
  | v :: vs, k, cs, h => by
    simp only [List.length_cons] at h
    rw [List.zipIdx_cons, List.foldl_cons, setRun o vs (k + 1) _ (by simp; omega)]
    simp only [Array.toList_setIfInBounds, List.length_cons]
    rw [List.take_set, List.drop_set, if_pos (by omega)]
    have h1 : o + (k + 1) = o + k + 1 := by omega
    rw [h1, List.take_succ_eq_append_getElem (by simp; omega), List.set_append_right _ _ (by simp; omega)]
    have h2 : o + k - (List.take (o + k) cs.toList).length = 0 := by simp; omega
    rw [h2, show o + k + 1 + vs.length = o + k + (vs.length + 1) by omega]
    simp
def LitOk {α : Type} (e : Enc α) (t : Fr) : Nat → List (Nat × Operand) → List α → Prop
  | _, [], [] => True
  | i, (j, x) :: ps, a :: l => j = i ∧ (ev t x).cells = (e.en a).toArray ∧ LitOk e t (i + 1) ps l
  | _, _, _ => False
theorem fill_lit {α : Type} (e : Enc α) (t : Fr) : ∀ (ps : List (Nat × Operand)) (l : List α) (i : Nat) (cs : Array Value), LitOk e t i ps l → cs.size = (i + l.length) * e.sz →
    Instr.fill (fun i => some (i * e.sz, e.sz)) cs (ps.map fun p => (p.1, ev t p.2)) = some ((cs.toList.take (i * e.sz) ++ e.all l).toArray)
  | [], [], i, cs, _, hs => by
    simp only [List.map_nil, Instr.fill, Option.some.injEq]
    apply Array.ext'
    simp only [List.length_nil, Nat.add_zero] at hs
    simp [Enc.all, List.take_of_length_le (by simp; omega : cs.toList.length ≤ i * e.sz)]
  | [], _ :: _, _, _, h, _ => h.elim
  | _ :: _, [], _, _, h, _ => h.elim
  | (j, x) :: ps, a :: l, i, cs, ⟨h1, h2, h3⟩, hs => by
    subst h1
    have hz : (ev t x).cells.size = e.sz := by rw [h2]; simp [e.len]
    simp only [List.length_cons] at hs
    have hs' : cs.size = j * e.sz + e.sz + l.length * e.sz := by rw [hs, Nat.add_mul, Nat.add_mul]; omega
    simp only [List.map_cons, Instr.fill]
    rw [if_neg (by rw [hz]; intro hh; rcases (by simpa using hh : _) with hh; omega)]
    have key := setRun (j * e.sz) (e.en a) 0 cs (by simp [e.len]; omega)
    have e1 : (Array.foldl (fun cs x => match x with | (c, j_1) => cs.setIfInBounds (j * e.sz + j_1) c) cs (ev t x).cells.zipIdx) = (cs.toList.take (j * e.sz) ++ e.en a ++ cs.toList.drop (j * e.sz + e.sz)).toArray := by
      apply Array.ext'
      rw [h2]
      have : (e.en a).toArray.zipIdx = ((e.en a).zipIdx).toArray := by simp
      rw [this, List.foldl_toArray]
      simpa [e.len] using key
    rw [e1, fill_lit e t ps l (j + 1) _ h3 (by simp [e.len]; rw [hs', Nat.add_mul, Nat.add_mul]; omega)]
    congr 1
    have : (j + 1) * e.sz = j * e.sz + e.sz := by rw [Nat.add_mul]; omega
    rw [this]
    apply Array.ext'
    simp only [Enc.all, List.flatMap_cons]
    rw [List.take_append_of_le_length (by simp [e.len]; omega), List.take_of_length_le (by simp [e.len]; omega)]
    simp
theorem y_bsL {α : Type} {P : Program} {ρ : Option Nat} {N : Nat} {t : Fr} {w w0 : World} {X : Nat → Prop} {L : List Rs} {R : Value → World → Prop} {d : Option Nat} {ty T : TypeId} {ps : String} {af : Array Edge} {g : Option (Nat × Bool)}
    {e : Enc α} {E by_ n : Nat} {zz : Value} {parts : Array (Nat × Operand)} {l : List α} (hT : Sl P T E e.sz by_ zz) (H : St X w0 w L) (hn : l.length = n) (hle : n * e.sz ≤ 16777216)
    (hf : LitOk e t 0 parts.toList l) (hn0 : 0 < n)
    (h : ∀ v w', St X w0 w' (L ++ [.own e E v l]) → R v w') : Yd P ρ N ⟨d, .buildSlice T n parts, ty, ps, af, g⟩ t w R := by
  refine y_bs hT H hn hle ?_ hn0 h
  have := fill_lit e t parts.toList l 0 ((Array.range (n * e.sz)).map (zz.cells[· % zz.cells.size]!)) hf (by simp [hn])
  simp only [Nat.zero_mul, List.take_zero, List.nil_append] at this
  rw [← this]
  congr 1
  simp

/-! ### What the printed walks call -/
section
variable {P : Program} {ρ : Option Nat} {N : Nat} {Q : Exit → Fr → World → Prop} {t : Fr} {w w0 : World} {X : Nat → Prop} {L M : List Rs} {R : Value → World → Prop} {d : Option Nat} {ty T T' : TypeId} {ps : String} {af : Array Edge} {g : Option (Nat × Bool)} {x y : Operand} {α : Type}
theorem bind_ul {T E : TypeId} (h : P.underlying T = some (.slice E)) : ((#[T] : Array TypeId)[0]?).bind P.underlying = some (.slice E) := h
theorem sl_of {T E sz by_ : Nat} {z : Value} (h1 : P.underlying T = some (.slice E)) (h2 : (P.info? E).map (fun i => (i.zero, i.size, i.bytes)) = some (some z, sz, by_)) (h3 : z.cells.size = sz) (h4 : 0 < sz) : Sl P T E sz by_ z := by
  cases hi : P.info? E with
  | none => simp [hi] at h2
  | some i =>
    simp [hi] at h2
    exact ⟨h1, i, hi, h2.2.1, h2.2.2, h2.1, h3, h4⟩
theorem wc_drawnS {id n : Nat} {l : List Oper} {ds : List Nat} (hm : P.follows .mixedOrders = true) (_H : St X w0 w L) (hn : l.length = n) {l0 : Array Bool} (hl : Array.replicate n false = l0)
    (h : Wa P ρ N l.toArray Q (fun w => St X w0 w L) ds n l0 t w.drew) : Wc P ρ N Q (.region id l.toArray true) t w := by subst hl; exact wc_drawn hm hn h
theorem St.sub0 (H : St X w0 w L) : St X w0 w [] := ⟨H.ch, by simp, by simp, .nil⟩
theorem St.sub1 (H : St X w0 w L) (i : Nat) {r : Rs} (hi : L[i]? = some r) : St X w0 w [r] :=
  ⟨H.ch, by simpa using H.get i hi, by simpa using H.fp r (List.mem_of_getElem? hi), List.pairwise_singleton _ _⟩
theorem St.sub2 (H : St X w0 w L) (i j : Nat) {r s : Rs} (hi : L[i]? = some r) (hj : L[j]? = some s) (hij : (i == j) = false) : St X w0 w [r, s] :=
  ⟨H.ch, by simpa using ⟨H.get i hi, H.get j hj⟩, by simpa using ⟨H.fp r (List.mem_of_getElem? hi), H.fp s (List.mem_of_getElem? hj)⟩, by simpa using H.apart i j (by simpa using hij) hi hj⟩
theorem St.sub3 (H : St X w0 w L) (i j k : Nat) {r s u : Rs} (hi : L[i]? = some r) (hj : L[j]? = some s) (hk : L[k]? = some u) (hij : (i == j) = false) (hik : (i == k) = false) (hjk : (j == k) = false) : St X w0 w [r, s, u] :=
  ⟨H.ch, by simpa using ⟨H.get i hi, H.get j hj, H.get k hk⟩, by simpa using ⟨H.fp r (List.mem_of_getElem? hi), H.fp s (List.mem_of_getElem? hj), H.fp u (List.mem_of_getElem? hk)⟩,
   by simpa using ⟨⟨H.apart i j (by simpa using hij) hi hj, H.apart i k (by simpa using hik) hi hk⟩, H.apart j k (by simpa using hjk) hj hk⟩⟩
/-- A struct type: its naughts, where its fields lie. -/
def Bd (P : Program) (T : TypeId) (cs : Array Value) (pl : List (Nat × Nat)) : Prop :=
  ∃ fs v, P.underlying T = some (.struct fs) ∧ (P.info? T).bind (·.zero) = some v ∧ v.cells = cs ∧ ∀ w, (fs.mapM fun f => do pure (f.offset, ← sizeOf f.type) : Sem _).run P w = .ok pl.toArray w
theorem bd_of {fs : Array Field} {v : Value} {cs : Array Value} {pl : List (Nat × Nat)} (h1 : P.underlying T = some (.struct fs)) (h2 : (P.info? T).bind (·.zero) = some v) (h3 : v.cells = cs)
    (h4 : ∀ w, (fs.mapM fun f => do pure (f.offset, ← sizeOf f.type) : Sem _).run P w = .ok pl.toArray w) : Bd P T cs pl := ⟨fs, v, h1, h2, h3, h4⟩
theorem r_build {parts : Array (Nat × Operand)} {cs0 : Array Value} {pl : List (Nat × Nat)} {cs : List Value} (hB : Bd P T cs0 pl) (hf : Instr.fill (pl[·]?) cs0 (parts.toList.map fun p => (p.1, ev t p.2)) = some cs.toArray) :
    Rv P ⟨d, .build T parts, ty, ps, af, g⟩ t w (.agg cs.toArray) := by
  obtain ⟨fs, v, h1, h2, h3, h4⟩ := hB
  unfold Rv
  cases hi : P.info? T with
  | none => simp [hi] at h2
  | some i =>
    have hz : i.zero = some v := by simpa [hi] using h2
    have hzv : (zeroValue T).run P w = .ok v w := by simp [zeroValue, typeInfo, hi, hz]
    have e : (Array.map (fun x => match x with | (i, x) => (i, ev t x)) parts).toList = parts.toList.map fun p => (p.1, ev t p.2) := by simp
    have hfl : Instr.fill (fun j => (pl.toArray)[j]?) v.cells (Array.map (fun x => match x with | (i, x) => (i, ev t x)) parts).toList = some cs.toArray := by
      rw [e, h3]; simpa using hf
    simp only [execOp, Instr.build, Sem.run_bind, hzv, Result.andThen_ok, run_underlying h1, h4 w, hfl]
    rfl
theorem r_adrR {e : Enc α} {F : Nat → Prop} {l : List α} {v : Value} {f off : Nat} {i : Int} {n : Nat} (hT : Fa P T f off) (h : Rd (.of e) w F v l) (_h0 : 0 ≤ i) (h1 : i < l.length) (hx : ev t x = .pointer (adr v n)) :
    Rv P ⟨d, .fieldAddr T x f, ty, ps, af, g⟩ t w (.pointer (adr v (n + off))) := by
  obtain ⟨p, c, e1, h3, h4, h5⟩ := h
  rcases h5 with ⟨h5, _⟩ | ⟨b, o, h5, h6, h7⟩
  · subst h5; simp at h1; omega
  · subst e1; subst h5
    exact r_adrF (a := ⟨b, o + n, none⟩) hT rfl hx
/-- An element as a whole. -/
theorem r_ldA {e : Enc α} {F : Nat → Prop} {l : List α} {v : Value} {i : Int} {z : α} {n : Nat} (hT : Ag P T n) (h : Rd (.of e) w F v l) (h0 : 0 ≤ i) (h1 : i < l.length) (hx : ev t x = .pointer (adr v (i.toNat * e.sz))) (hn : e.sz = n) :
    Rv P ⟨d, .load T x, ty, ps, af, g⟩ t w (.agg (e.en (at_ z l i)).toArray) := by
  subst hn
  obtain ⟨p, c, e1, h3, h4, h5⟩ := h
  have hg := at_get z h0 h1
  rcases h5 with ⟨h5, _⟩ | ⟨b, o, h5, h6, h7⟩
  · subst h5; simp at h1; omega
  · subst e1; subst h5
    obtain ⟨cs, hk, hr⟩ := h7 _ _ hg
    have hk' : cs = e.en (at_ z l i) := hk
    subst hk'
    exact r_loadA (b := b) (o := o + i.toNat * e.sz) (by rw [e.len]; exact hT) hx hr
/-- A row of rows: the row that lies at a place. -/
theorem y_ldS {κ : Kd α} {F : Nat → Prop} {l : List (List α)} {v : Value} {i : Int} (hT : Sc P T) (h : Rd (.sl κ) w F v l) (h0 : 0 ≤ i) (h1 : i < l.length) (hx : ev t x = .pointer (adr v (i.toNat * 1)))
    (hR : ∀ u, Rd κ w F u (at_ [] l i) → R u w) : Yd P ρ N ⟨d, .load T x, ty, ps, af, g⟩ t w R := by
  obtain ⟨p, c, e1, h3, h4, h5⟩ := h
  have hg := at_get [] h0 h1
  rcases h5 with ⟨h5, _⟩ | ⟨b, o, h5, h6, h7⟩
  · subst h5; simp at h1; omega
  · subst e1; subst h5
    obtain ⟨cs, ⟨u, hk, hu⟩, hr⟩ := h7 _ _ hg
    subst hk
    exact y_val (r_load hT hx (hr 0 u rfl)) (hR u hu)
theorem y_storeE {e : Enc α} {E : TypeId} {v u : Value} {l : List α} {i : Int} {j : Nat} {z a' : α} (hT : Sz P T 1) (H : St X w0 w L) (q : Nat) (hk : L[q]? = some (.own e E v l)) (h0 : 0 ≤ i) (h1 : i < l.length) (hj : j < e.sz)
    (hx : ev t x = .pointer (adr v (i.toNat * e.sz + j))) (hy : ev t y = u) (h2 : u.cells = #[u]) (h3 : u.oneCell' = true) (he : e.en a' = (e.en (at_ z l i)).set j u)
    (h : ∀ w', St X w0 w' (L.set q (.own e E v (l.set i.toNat a'))) → R undef w') : Yd P ρ N ⟨d, .store T x y, ty, ps, af, g⟩ t w R :=
  y_storeR hT H q hk (at_get z h0 h1) hj he hx hy h2 h3 h
end

/-! ### Results -/
def RVok (P : Program) (w : World) (t : Fr) : ResultVar → Value → Prop
  | .tmp i, v => ev t (.tmp i) = v
  | .cell a T, v => ∃ b o cs, ev t (.tmp a) = .pointer (some ⟨b, o, none⟩) ∧ Ag P T cs.length ∧ w.rangeAt b o cs ∧ v = .agg cs.toArray
def RVs (P : Program) (w : World) (t : Fr) : List ResultVar → List Value → Prop
  | [], [] => True
  | r :: rs, v :: vs => RVok P w t r v ∧ RVs P w t rs vs
  | _, _ => False
def resv : List Value → Value
  | [v] => v
  | vs => .tuple vs.toArray
def resRV (a : Act) : ResultVar → Sem Value
  | .tmp t => pure (a.tmps.getD t undef)
  | .cell p T => do loadVar T (← asAddr (a.tmps.getD p undef))
theorem run_resM {P : Program} {N : Nat} {w : World} {t : Fr} (a : Act) (ha : Fm N t a) : ∀ (rs : List ResultVar) (vs : List Value), RVs P w t rs vs →
    (rs.mapM (resRV a)).run P w = .ok vs w
  | [], [], _ => by simp
  | [], _ :: _, h => h.elim
  | _ :: _, [], h => h.elim
  | r :: rs, v :: vs, ⟨h1, h2⟩ => by
    have ih := run_resM a ha rs vs h2
    rw [List.mapM_cons, Sem.run_bind]
    cases r with
    | tmp i =>
      have h1' : ev t (.tmp i) = v := h1
      have hg : a.tmps.getD i undef = ev t (.tmp i) := by rw [← ha.eval]; rfl
      show (((pure (a.tmps.getD i undef) : Sem Value)).run P w).andThen _ = _
      rw [hg, h1']
      simp only [Sem.run_pure, Result.andThen_ok, Sem.run_bind, ih]
    | cell p T =>
      obtain ⟨b, o, cs, e1, ⟨D, e2, e3, e4⟩, e5, e6⟩ := h1
      have hl := run_loadVar_mid (P := P) w b o T cs D e5 e2 e3 e4
      show ((do loadVar T (← asAddr (a.tmps.getD p undef)) : Sem Value).run P w).andThen _ = _
      have hg : a.tmps.getD p undef = ev t (.tmp p) := by rw [← ha.eval]; rfl
      rw [hg, e1]
      simp only [asAddr, Sem.run_bind, Sem.run_pure, Result.andThen_ok, hl, ih, e6]
theorem resN {P : Program} {N : Nat} {w : World} {t : Fr} {fn : Func} {rs : List ResultVar} {vs : List Value} (hf : fn.results = rs.toArray) (h : RVs P w t rs vs) (a : Act) (ha : Fm N t a) : (results fn a.tmps).run P w = .ok (resv vs) w := by
  have h1 := run_resM a ha rs vs h
  have e : results fn a.tmps = (do let vs ← fn.results.mapM (resRV a); pure (if h : vs.size = 1 then vs[0] else .tuple vs)) := by
    unfold results
    congr 1
  rw [e, hf, Sem.run_bind, List.mapM_toArray, map_eq_pure_bind, Sem.run_bind, h1]
  simp only [Result.andThen_ok, Sem.run_pure]
  match vs with
  | [] => rfl
  | [v] => rfl
  | v :: u :: vs => rfl

section
variable {P : Program} {ρ : Option Nat} {N : Nat} {Q : Exit → Fr → World → Prop} {t : Fr} {w : World}
theorem rv_nil : RVs P w t [] [] := trivial
theorem rv_t {i : Nat} {rs : List ResultVar} {vs : List Value} (h : RVs P w t rs vs) : RVs P w t (.tmp i :: rs) (ev t (.tmp i) :: vs) := ⟨rfl, h⟩
theorem rv_c {a T b o n : Nat} {cs : List Value} {rs : List ResultVar} {vs : List Value} (hx : ev t (.tmp a) = .pointer (some ⟨b, o, none⟩)) (hT : Ag P T n) (hr : w.rangeAt b o cs) (hn : cs.length = n) (h : RVs P w t rs vs) : RVs P w t (.cell a T :: rs) (.agg cs.toArray :: vs) :=
  ⟨⟨b, o, cs, hx, hn ▸ hT, hr, rfl⟩, h⟩
/-! shorter words -/
section
variable {d : Option Nat} {ty : TypeId} {ps : String} {af : Array Edge} {g : Option (Nat × Bool)} {x y : Operand} {v : Value}
theorem mv (v : Value) (h : ev t x = v) : Rv P ⟨d, .move x, ty, ps, af, g⟩ t w v := h ▸ r_move
theorem sg (v : Value) (h : ev t x = v) : Rv P ⟨d, .assign x, ty, ps, af, g⟩ t w v := h ▸ r_assign
theorem pT {c : Operand} {b : Bool} (v : Value) (h : ev t x = v) (hc : ev t c = .bool b) (hb : b = true) : Rv P ⟨d, .pick c x y, ty, ps, af, g⟩ t w v := h ▸ r_pickT hc hb
theorem pF {c : Operand} {b : Bool} (v : Value) (h : ev t y = v) (hc : ev t c = .bool b) (hb : b = false) : Rv P ⟨d, .pick c x y, ty, ps, af, g⟩ t w v := h ▸ r_pickF hc hb
end
theorem v_ {ops : Array Oper} {d : Nat} {op : Op} {ty : TypeId} {ps : String} {af : Array Edge} {rest : List Oper} {v : Value} (hd : Nat.blt d N = true) (hr : Rv P ⟨some d, op, ty, ps, af, none⟩ t w v)
    (h : Wl P ρ N ops Q rest (upd t d v) w) : Wl P ρ N ops Q (⟨some d, op, ty, ps, af, none⟩ :: rest) t w := wl_val rfl hd hr h
theorem on_ {ops : Array Oper} {d : Nat} {op : Op} {ty : TypeId} {ps : String} {af : Array Edge} {j : Nat} {b c : Bool} {rest : List Oper} {v : Value}
    (hcb : c = b) (hy : yd ops t j = some c) (hd : Nat.blt d N = true) (hr : Rv P ⟨some d, op, ty, ps, af, some (j, b)⟩ t w v)
    (h : Wl P ρ N ops Q rest (upd t d v) w) : Wl P ρ N ops Q (⟨some d, op, ty, ps, af, some (j, b)⟩ :: rest) t w := wl_onv hy hcb hd hr h
theorem off_ {ops : Array Oper} {d : Nat} {op : Op} {ty : TypeId} {ps : String} {af : Array Edge} {j : Nat} {b c c' : Bool} {rest : List Oper}
    (hcc : c' = c) (hy : yd ops t j = some c') (hbc : (c == b) = false) (hd : Nat.blt d N = true)
    (h : Wl P ρ N ops Q rest (upd t d undef) w) : Wl P ρ N ops Q (⟨some d, op, ty, ps, af, some (j, b)⟩ :: rest) t w := wl_off hy hcc hbc hd h
theorem e_ {ops : Array Oper} {d : Nat} {op : Op} {ty : TypeId} {ps : String} {af : Array Edge} {rest : List Oper} (hd : Nat.blt d N = true)
    (h : Yd P ρ N ⟨some d, op, ty, ps, af, none⟩ t w fun v w' => Wl P ρ N ops Q rest (upd t d v) w') : Wl P ρ N ops Q (⟨some d, op, ty, ps, af, none⟩ :: rest) t w := wl_op rfl hd h
theorem s_ {ops : Array Oper} {op : Op} {ty : TypeId} {ps : String} {af : Array Edge} {rest : List Oper}
    (h : Yd P ρ N ⟨none, op, ty, ps, af, none⟩ t w fun _ w' => Wl P ρ N ops Q rest t w') : Wl P ρ N ops Q (⟨none, op, ty, ps, af, none⟩ :: rest) t w := wl_op rfl rfl h
theorem rg {id : Nat} {l : List Oper} {c : Code} (h : Wl P ρ N l.toArray (Thn (fun t w => Wc P ρ N Q c t w) Q) l t w) : Wc P ρ N Q (.seq (.region id l.toArray false) c) t w := wc_seq (wc_region h)
theorem nl {nx : Fr → World → Prop} {ops : Array Oper} (h : nx t w) : Wl P ρ N ops (Thn nx Q) [] t w := wl_nil h
end
end Go.Proofs.Ythfhhnlnlcbckaa.Gw
