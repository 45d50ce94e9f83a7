/- What a call holds: things, each with the blocks that are its own. -/
import Derived.Test.YthfhhnlnlcbckaaGw
namespace Go.Proofs.Ythfhhnlnlcbckaa.Gw
open Go Go.RowKit
set_option linter.unusedSimpArgs false
set_option linter.unusedVariables false

/-- From w to w' nothing has changed but new blocks and what X names. -/
structure Ch (X : Nat → Prop) (w w' : World) : Prop where
  os : w'.os = w.os
  tape : w'.tape = w.tape
  output : w'.output = w.output
  size : w.heap.size ≤ w'.heap.size
  block : ∀ b, b < w.heap.size → ¬ X b → w'.heap[b]? = w.heap[b]?
def no : Nat → Prop := fun _ => False
theorem Ch.refl (X : Nat → Prop) (w : World) : Ch X w w := ⟨rfl, rfl, rfl, Nat.le_refl _, fun _ _ _ => rfl⟩
theorem Ch.trans {X : Nat → Prop} {a b c : World} (h : Ch X a b) (k : Ch X b c) : Ch X a c :=
  ⟨k.os.trans h.os, k.tape.trans h.tape, k.output.trans h.output, Nat.le_trans h.size k.size, fun i hi hx => (k.block i (Nat.lt_of_lt_of_le hi h.size) hx).trans (h.block i hi hx)⟩
theorem Ch.trans' {X Y : Nat → Prop} {a b c : World} (h : Ch X a b) (k : Ch Y b c) (hy : ∀ i, i < a.heap.size → Y i → X i) : Ch X a c :=
  ⟨k.os.trans h.os, k.tape.trans h.tape, k.output.trans h.output, Nat.le_trans h.size k.size, fun i hi hx => (k.block i (Nat.lt_of_lt_of_le hi h.size) (fun y => hx (hy i hi y))).trans (h.block i hi hx)⟩
theorem Ch.mono {X Y : Nat → Prop} {a b : World} (h : Ch X a b) (hy : ∀ i, i < a.heap.size → X i → Y i) : Ch Y a b :=
  ⟨h.os, h.tape, h.output, h.size, fun i hi hx => h.block i hi (fun x => hx (hy i hi x))⟩
theorem Ch.drew (X : Nat → Prop) (w : World) : Ch X w w.drew := ⟨rfl, rfl, rfl, Nat.le_refl _, fun _ _ _ => rfl⟩
theorem Ch.alloc (X : Nat → Prop) (w : World) (o : Obj) : Ch X w (w.alloc o) :=
  ⟨rfl, rfl, rfl, by simp, fun b hb _ => Below.heap_alloc w o b hb⟩
theorem Ch.set {X : Nat → Prop} (w : World) (p : Addr) (v : Value) (h : X p.block) : Ch X w (w.setCell p v) :=
  ⟨rfl, rfl, rfl, by simp [World.setCell], fun b _ hx => Below.heap_setCell w p v b (fun e => hx (e ▸ h))⟩
theorem Ch.below {w w' : World} (h : Ch no w w') : Below w.heap.size w w' := ⟨h.os, h.tape, h.output, h.size, fun b hb => h.block b hb (fun x => x)⟩
theorem Ch.of_below {X : Nat → Prop} {w w' : World} (h : Below w.heap.size w w') : Ch X w w' := ⟨h.os, h.tape, h.output, h.size, fun b hb _ => h.block b hb⟩
theorem Ch.grown {X : Nat → Prop} {w w' : World} {r : Option Nat} (h : w.grownBy w' r) (hr : ∀ k, r = some k → X k) : Ch X w w' :=
  ⟨h.os, h.tape, h.output, h.size, fun b hb hx => h.block b hb (fun e => hx (hr b e.symm))⟩

/-- A thing: the blocks that are its own, and what holds of it. -/
structure Rs where
  fp : Nat → Prop
  inv : World → Prop
  loc : ∀ w w', (∀ b, fp b → w'.heap[b]? = w.heap[b]?) → inv w → inv w'
  bd : ∀ w, inv w → ∀ b, fp b → b < w.heap.size
theorem Rs.keep {r : Rs} {X : Nat → Prop} {w w' : World} (h : r.inv w) (hc : Ch X w w') (hx : ∀ b, r.fp b → ¬ X b) : r.inv w' :=
  r.loc w w' (fun b hb => hc.block b (r.bd w h b hb) (hx b hb)) h

/-- What a call that began in w0 holds in w; X: the blocks of old that are its own. -/
structure St (X : Nat → Prop) (w0 w : World) (L : List Rs) : Prop where
  ch : Ch X w0 w
  inv : ∀ r ∈ L, r.inv w
  fp : ∀ r ∈ L, ∀ b, r.fp b → w0.heap.size ≤ b ∨ X b
  dj : L.Pairwise fun r s => ∀ b, r.fp b → ¬ s.fp b
section
variable {X : Nat → Prop} {w0 w w' : World} {L : List Rs}
theorem St.nil (X : Nat → Prop) (w : World) : St X w w [] := ⟨.refl _ _, by simp, by simp, .nil⟩
theorem St.get (H : St X w0 w L) (i : Nat) {r : Rs} (hi : L[i]? = some r) : r.inv w := H.inv r (List.mem_of_getElem? hi)
/-- New blocks alone. -/
theorem St.call (H : St X w0 w L) (h : Ch no w w') : St X w0 w' L :=
  ⟨H.ch.trans' h (fun _ _ x => x.elim), fun r hr => Rs.keep (H.inv r hr) h (fun _ _ x => x), H.fp, H.dj⟩
/-- A thing is made anew out of its own blocks and new ones. -/
theorem St.put (H : St X w0 w L) (i : Nat) {r r' : Rs} (hi : L[i]? = some r) (h : Ch r.fp w w') (hr : r'.inv w') (hf : ∀ b, r'.fp b → r.fp b ∨ w.heap.size ≤ b) : St X w0 w' (L.set i r') := by
  have hlt : i < L.length := (List.getElem?_eq_some_iff.1 hi).1
  have hget : L[i] = r := (List.getElem?_eq_some_iff.1 hi).2
  have dj' : ∀ j (hj : j < L.length), j ≠ i → ∀ b, L[j].fp b → ¬ r.fp b := by
    intro j hj hne b h1 h2
    rcases Nat.lt_or_gt_of_ne hne with hl | hl
    · exact (List.pairwise_iff_getElem.1 H.dj) j i hj hlt hl b h1 (by rw [hget]; exact h2)
    · exact (List.pairwise_iff_getElem.1 H.dj) i j hlt hj hl b (by rw [hget]; exact h2) h1
  refine ⟨?_, ?_, ?_, ?_⟩
  · exact H.ch.trans' h (fun b hb x => (H.fp r (List.mem_of_getElem? hi) b x).resolve_left (by omega))
  · intro s hs
    obtain ⟨j, hj, e⟩ := List.getElem_of_mem hs
    rw [List.getElem_set] at e
    have hj' : j < L.length := by simpa using hj
    by_cases hij : i = j
    · rw [if_pos hij] at e; rw [← e]; exact hr
    · rw [if_neg hij] at e
      rw [← e]
      exact Rs.keep (H.inv _ (List.getElem_mem hj')) h (fun b h1 h2 => dj' j hj' (fun e => hij e.symm) b h1 h2)
  · intro s hs b hb
    rcases List.mem_or_eq_of_mem_set hs with h1 | h1
    · exact H.fp s h1 b hb
    · subst h1
      rcases hf b hb with h2 | h2
      · exact H.fp r (List.mem_of_getElem? hi) b h2
      · exact .inl (Nat.le_trans H.ch.size h2)
  · rw [List.pairwise_iff_getElem]
    intro p q hp hq hpq b h1 h2
    have hp' : p < L.length := by simpa using hp
    have hq' : q < L.length := by simpa using hq
    rw [List.getElem_set] at h1 h2
    have old : ∀ j (hj : j < L.length), j ≠ i → L[j].fp b → r'.fp b → False := by
      intro j hj hne hb hb'
      rcases hf b hb' with h3 | h3
      · exact dj' j hj hne b hb h3
      · have := L[j].bd w (H.inv _ (List.getElem_mem hj)) b hb; omega
    by_cases hip : i = p
    · rw [if_pos hip] at h1
      rw [if_neg (by omega)] at h2
      exact old q hq' (by omega) h2 h1
    · rw [if_neg hip] at h1
      by_cases hiq : i = q
      · rw [if_pos hiq] at h2; exact old p hp' (by omega) h1 h2
      · rw [if_neg hiq] at h2
        exact (List.pairwise_iff_getElem.1 H.dj) p q hp' hq' hpq b h1 h2
/-- A new thing in new blocks. -/
theorem St.new (H : St X w0 w L) {r : Rs} (h : Ch no w w') (hr : r.inv w') (hf : ∀ b, r.fp b → w.heap.size ≤ b) : St X w0 w' (L ++ [r]) := by
  have H' := H.call h
  refine ⟨H'.ch, ?_, ?_, ?_⟩
  · intro s hs
    rcases List.mem_append.1 hs with h1 | h1
    · exact H'.inv s h1
    · rw [List.mem_singleton.1 h1]; exact hr
  · intro s hs b hb
    rcases List.mem_append.1 hs with h1 | h1
    · exact H'.fp s h1 b hb
    · rw [List.mem_singleton.1 h1] at hb; exact .inl (Nat.le_trans H.ch.size (hf b hb))
  · rw [List.pairwise_append]
    refine ⟨H.dj, by simp, fun a ha s hs b h1 h2 => ?_⟩
    rw [List.mem_singleton.1 hs] at h2
    have := a.bd w (H.inv a ha) b h1
    have := hf b h2
    omega
/-- A thing that is part of no heap may be laid beside. -/
theorem St.drew (H : St X w0 w L) : St X w0 w.drew L := H.call (.drew _ _)
theorem St.apart (H : St X w0 w L) (i j : Nat) (hij : i ≠ j) {r s : Rs} (hi : L[i]? = some r) (hj : L[j]? = some s) : ∀ b, r.fp b → ¬ s.fp b := by
  obtain ⟨h1, e1⟩ := List.getElem?_eq_some_iff.1 hi
  obtain ⟨h2, e2⟩ := List.getElem?_eq_some_iff.1 hj
  subst e1; subst e2
  intro b x y
  rcases Nat.lt_or_gt_of_ne hij with hl | hl
  · exact (List.pairwise_iff_getElem.1 H.dj) i j h1 h2 hl b x y
  · exact (List.pairwise_iff_getElem.1 H.dj) j i h2 h1 hl b y x
end

/-! ### Blocks -/
def Rs.blk (b : Nat) (cs : Array Value) (T : TypeId) : Rs where
  fp := fun x => x = b
  inv := fun w => w.heap[b]? = some (.cells cs T (0, 0))
  loc := fun w w' h hi => (h b rfl).trans hi
  bd := fun w h x e => by subst e; exact (Array.getElem?_eq_some_iff.1 h).1
/-- A row of the call's own. -/
def Rs.row (E sz : Nat) (v : Value) (n : Nat) (xs : List Value) : Rs where
  fp := fun x => v.ownBlock = some x
  inv := fun w => w.ownsRow 0 E sz v n xs
  loc := fun w w' h hi => by
    obtain ⟨h1, h2⟩ := hi
    refine ⟨h1, ?_⟩
    rcases h2 with h2 | ⟨g, cap, cur, hv, hg, hh, r⟩
    · exact .inl h2
    · exact .inr ⟨g, cap, cur, hv, hg, (h g (by rw [hv]; rfl)).trans hh, r⟩
  bd := fun w h x e => by
    obtain ⟨_, h2⟩ := h
    rcases h2 with ⟨h2, _⟩ | ⟨g, cap, cur, hv, hg, hh, r⟩
    · rw [h2] at e; cases e
    · rw [hv] at e; cases e; exact (Array.getElem?_eq_some_iff.1 hh).1

section
variable {X : Nat → Prop} {w0 w : World} {L : List Rs}
theorem St.box (H : St X w0 w L) (cs : Array Value) (T : TypeId) : St X w0 (w.alloc (.cells cs T)) (L ++ [.blk w.heap.size cs T]) :=
  H.new (.alloc _ _ _) (by show (w.heap.push _)[w.heap.size]? = _; simp) (fun b e => by simp only [Rs.blk] at e; omega)
theorem blk_set {b o : Nat} {cs : Array Value} {T : TypeId} (v : Value) (h : (Rs.blk b cs T).inv w) : (Rs.blk b (cs.setIfInBounds o v) T).inv (w.setCell ⟨b, o, none⟩ v) := by
  simp only [Rs.blk] at h ⊢
  simp [World.setCell, Array.getElem?_modify, h]
theorem St.store (H : St X w0 w L) (i : Nat) {b : Nat} {cs : Array Value} {T : TypeId} (hi : L[i]? = some (.blk b cs T)) (o : Nat) (v : Value) :
    St X w0 (w.setCell ⟨b, o, none⟩ v) (L.set i (.blk b (cs.setIfInBounds o v) T)) :=
  H.put i hi (.set _ _ _ rfl) (blk_set v (H.get i hi)) (fun _ e => .inl e)
theorem blk_cell {b o : Nat} {cs : Array Value} {T : TypeId} {v : Value} (h : (Rs.blk b cs T).inv w) (hv : cs[o]? = some v) : w.cell? ⟨b, o, none⟩ = some v := by
  simp only [Rs.blk] at h; simp [World.cell?, h, hv]
theorem blk_frozen {b o : Nat} {cs : Array Value} {T : TypeId} (h : (Rs.blk b cs T).inv w) : w.frozen? ⟨b, o, none⟩ = false := by
  simp only [Rs.blk] at h; simp [World.frozen?, h]
end
end Go.Proofs.Ythfhhnlnlcbckaa.Gw
