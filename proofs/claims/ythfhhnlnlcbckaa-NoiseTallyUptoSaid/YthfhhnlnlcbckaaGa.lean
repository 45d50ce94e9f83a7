/- Sets of ints that a call makes, their keys in order; empty literals; what is not nil. -/
import Derived.Test.YthfhhnlnlcbckaaGq
import Derived.Maps.OwnSet
import Derived.Lib.SlKeysI
namespace Go.Proofs.Ythfhhnlnlcbckaa.Gw
open Go Go.RowKit
set_option linter.unusedSimpArgs false
set_option linter.unusedVariables false

/-! ### Sorted lists of keys -/
def insK (x : Int) : List Int → List Int
  | [] => [x]
  | y :: ys => if x < y then x :: y :: ys else if x = y then y :: ys else y :: insK x ys
def skeys (l : List Int) : List Int := l.foldl (fun acc x => insK x acc) []
theorem mem_insK {x z : Int} : ∀ {l : List Int}, z ∈ insK x l ↔ z = x ∨ z ∈ l
  | [] => by simp [insK]
  | y :: ys => by
    unfold insK
    split
    · simp
    · split
      · rename_i h; subst h; simp
      · simp [mem_insK (l := ys)]
        constructor
        · rintro (h | h | h) <;> simp [h]
        · rintro (h | h | h) <;> simp [h]
theorem insK_lt {x : Int} : ∀ {l : List Int}, l.Pairwise (· < ·) → (insK x l).Pairwise (· < ·)
  | [], _ => by simp [insK]
  | y :: ys, h => by
    obtain ⟨h1, h2⟩ := List.pairwise_cons.1 h
    unfold insK
    split
    · rename_i hx
      refine List.pairwise_cons.2 ⟨fun z hz => ?_, h⟩
      rcases List.mem_cons.1 hz with e | e
      · omega
      · have := h1 z e; omega
    · split
      · exact h
      · refine List.pairwise_cons.2 ⟨fun z hz => ?_, insK_lt h2⟩
        rcases mem_insK.1 hz with e | e
        · omega
        · exact h1 z e
theorem skeys_fold : ∀ (l acc : List Int), acc.Pairwise (· < ·) → (l.foldl (fun acc x => insK x acc) acc).Pairwise (· < ·) ∧ ∀ z, z ∈ l.foldl (fun acc x => insK x acc) acc ↔ z ∈ acc ∨ z ∈ l
  | [], acc, h => ⟨h, fun z => by simp⟩
  | x :: xs, acc, h => by
    obtain ⟨h1, h2⟩ := skeys_fold xs (insK x acc) (insK_lt h)
    refine ⟨h1, fun z => ?_⟩
    rw [List.foldl_cons, h2 z, mem_insK, List.mem_cons]
    constructor
    · rintro ((h | h) | h) <;> simp [h]
    · rintro (h | h | h) <;> simp [h]
theorem skeys_lt (l : List Int) : (skeys l).Pairwise (· < ·) := (skeys_fold l [] .nil).1
theorem mem_skeys {l : List Int} {z : Int} : z ∈ skeys l ↔ z ∈ l := by
  have := (skeys_fold l [] .nil).2 z
  unfold skeys
  rw [this]; simp
theorem skeys_snoc (l : List Int) (x : Int) : skeys (l ++ [x]) = insK x (skeys l) := by simp [skeys, List.foldl_append]
theorem eq_of_lt_mem : ∀ {l m : List Int}, l.Pairwise (· < ·) → m.Pairwise (· < ·) → (∀ z, z ∈ l ↔ z ∈ m) → l = m := by
  intro l m hl hm h
  have ndl : l.Nodup := hl.imp (fun h => by omega)
  have ndm : m.Nodup := hm.imp (fun h => by omega)
  exact List.Perm.eq_of_pairwise (le := fun a b => a < b) (fun a b _ _ h1 h2 => by omega) hl hm ((List.perm_ext_iff_of_nodup ndl ndm).2 h)
/-- What Go's own sort makes of a set's keys. -/
theorem sort_skeys {H : Type} {u : DataW H} {l ss : List Int} (h : ss.Perm (intKeys (Maps.setOf u (l.map fun x => Lit.int .i64 x)))) : ss.mergeSort leI = skeys l := by
  have hk : ∀ x ∈ l.map (fun x => Lit.int .i64 x), WideAt.IsKeyLit x := by
    intro x hx
    obtain ⟨a, _, rfl⟩ := List.mem_map.1 hx
    exact trivial
  have ht := Maps.tidy_setOf u _ hk
  have keys : ∀ (xs : List Lit) (es : List (Lit × DataW H)), (∀ x ∈ xs, ∃ a, x = Lit.int .i64 a) → (∀ p ∈ es, ∃ a, p.1 = Lit.int .i64 a) → ∃ es', xs.foldl (fun m x => m.put x u) (DataW.map es) = .map es' ∧ ∀ p ∈ es', ∃ a, p.1 = Lit.int .i64 a := by
    intro xs
    induction xs with
    | nil => exact fun es _ h => ⟨es, rfl, h⟩
    | cons x xs ih =>
      intro es hx he
      rw [List.foldl_cons, DataW.put_eq]
      refine ih _ (fun y hy => hx y (List.mem_cons_of_mem _ hy)) (fun p hp => ?_)
      rcases ChangeMaps.mem_insert_iff.1 hp with e | e
      · rw [e]; exact hx x List.mem_cons_self
      · exact he p (List.mem_filter.1 e).1
  obtain ⟨es, he, hes⟩ := keys (l.map fun x => Lit.int .i64 x) [] (fun x hx => by obtain ⟨a, _, rfl⟩ := List.mem_map.1 hx; exact ⟨a, rfl⟩) (by simp)
  change Maps.setOf u _ = _ at he
  have hm : ∀ x, x ∈ skeys l ↔ Maps.has (.map es) (.int .i64 x) = true := by
    intro x
    rw [← he, Maps.has_setOf u _ _ hk, List.any_eq_true, mem_skeys]
    constructor
    · exact fun h => ⟨_, List.mem_map.2 ⟨x, h, rfl⟩, by simp [Lit.sameKey]⟩
    · rintro ⟨y, hy, hs⟩
      obtain ⟨a, ha, rfl⟩ := List.mem_map.1 hy
      have : a = x := by simpa [Lit.sameKey] using hs
      exact this ▸ ha
  rw [he] at h ht
  obtain ⟨es2, e2, hp⟩ := ht
  cases e2
  have hperm := perm_intKeys hp hes ((skeys_lt l).imp (fun h => by omega)) hm
  rw [mergeSort_of_perm_i (h.trans hperm.symm)]
  exact List.mergeSort_of_pairwise ((skeys_lt l).imp (fun h => by simp only [leI, decide_eq_true_eq]; omega))
theorem all_int (k : IntKind) (l : List Int) : (Enc.int k).all l = l.map (Value.int k) := by
  induction l with
  | nil => rfl
  | cons x xs ih => rw [List.map_cons, ← ih]; rfl
/-! ### The set -/
/-- A map[K]struct{} of the call's own, by what has been put into it. -/
def Rs.mp (P : Program) (K b : Nat) (l : List Int) : Rs where
  fp := fun x => x = b
  inv := fun w => ∃ n, w.ownsMap (H := Unit) P K unitElem b n (Maps.setOf (.agg []) (l.map fun x => Lit.int .i64 x)) ∧ n ≤ l.length
  loc := fun w w' h ⟨n, ⟨es, clock, hb, r⟩, hn⟩ => ⟨n, ⟨es, clock, (h b rfl).trans hb, r⟩, hn⟩
  bd := fun w ⟨n, h, _⟩ x e => by subst e; exact h.lt
section
variable {P : Program} {ρ : Option Nat} {N : Nat} {Q : Exit → Fr → World → Prop} {t : Fr} {w w0 : World} {X : Nat → Prop} {L : List Rs} {R : Value → World → Prop} {d : Option Nat} {ty T T' K E : TypeId} {ps : String} {af : Array Edge} {g : Option (Nat × Bool)} {x y z : Operand}
theorem y_mkMap (H : St X w0 w L) (K : TypeId) (h : ∀ b w', St X w0 w' (L ++ [.mp P K b []]) → R (.map (some b)) w') : Yd P ρ N ⟨d, .makeMap T none, ty, ps, af, g⟩ t w R :=
  y_val (v := .map (some w.heap.size)) (w' := w.alloc (.map #[] 0)) (by simp only [execOp, Option.map_none]; rfl)
    (h _ _ (H.new (.alloc _ _ _) ⟨0, World.ownsMap_made w P K unitElem, Nat.le_refl _⟩ (fun b e => by simp only [Rs.mp] at e; omega)))
theorem ch_turned {b : Nat} {w' : World} (h : w.mapTurned w' b) : Ch (fun x => x = b) w w' := Ch.grown h.grown (fun k e => by cases e; rfl)
theorem y_mapUpd {b : Nat} {l : List Int} {a : Int} (hK : P.underlying K = some (.int .i64)) (hT : P.underlying T = some (.map K E)) (H : St X w0 w L) (q : Nat) (hq : L[q]? = some (.mp P K b l)) (hx : ev t x = .map (some b)) (hy : ev t y = .int .i64 a) (hz : ev t z = .agg #[])
    (h0 : -9223372036854775808 ≤ a) (h1 : a ≤ 9223372036854775807) (h2 : l.length < maxLen)
    (h : ∀ w', St X w0 w' (L.set q (.mp P K b (l ++ [a]))) → R undef w') : Yd P ρ N ⟨d, .mapUpdate T x y z, ty, ps, af, g⟩ t w R := by
  obtain ⟨n, hm, hn⟩ := H.get q hq
  have hw : (Lit.int .i64 a).wf = true := by simp [Lit.wf, IntKind.min, IntKind.max, IntKind.signed, IntKind.bits]; omega
  obtain ⟨w', hr, hm', ht⟩ := hm.store (Maps.int_keyed hK) hT (by omega) (Maps.keyOf_int_mk hK hw) (unitElem_mk (H := Unit))
  refine y_skip (w' := w') ?_ (h _ (H.put q hq (ch_turned ht) ⟨n + 1, ?_, by simp; omega⟩ (fun _ e => .inl e)))
  · simp only [execOp, hx, hy, hz]
    show ((do Instr.mapUpdate T (.map (some b)) (.int .i64 a) (.agg #[]); pure Next.skip) : Sem Next).run P w = _
    rw [Sem.run_bind, hr]; rfl
  · rw [List.map_append, List.map_cons, List.map_nil, Maps.setOf_snoc]; exact hm'
theorem r_nilck {p : Addr} (hx : ev t x = .pointer (some p)) : Rv P ⟨d, .nilCheck x, ty, ps, af, g⟩ t w (.pointer (some p)) := by
  unfold Rv; simp only [execOp, hx]; rfl
theorem y_bs0 {α : Type} {e : Enc α} {by_ : Nat} {zz : Value} (hT : Sl P T E e.sz by_ zz) (H : St X w0 w L) (h : ∀ v w', St X w0 w' (L ++ [.own e E v []]) → R v w') : Yd P ρ N ⟨d, .buildSlice T 0 #[], ty, ps, af, g⟩ t w R := by
  obtain ⟨hu, i, hi, hs, _⟩ := hT
  refine y_val (v := .slice (some ⟨w.heap.size, 0, none⟩) 0 0) (w' := w.alloc (.cells #[] E)) ?_ (h _ _ (H.new (.alloc _ _ _) ?_ (fun b e => by simp only [Rs.own, Rs.row, Value.ownBlock, Option.some.injEq] at e; omega)))
  · simp [execOp, Instr.buildSlice, run_underlying hu, Sem.run_bind, sizeOf, typeInfo, hi, Instr.fill, newRow, go_sem]
  · refine ⟨by simp [Enc.all], .inr ⟨w.heap.size, 0, #[], rfl, Nat.zero_le _, ?_, Nat.le_refl _, Nat.zero_le _, by simp, by simp [Enc.all]⟩⟩
    show (w.heap.push _)[w.heap.size]? = _
    simp
theorem run_equalIn_snil (n : Nat) {p : Option Addr} {a c : Nat} (hT : P.underlying T = some (.slice E)) : (Op.equalIn (n + 1) T (.slice p a c) (.slice none 0 0)).run P w = .ok p.isNone w := by
  simp [Op.equalIn, run_underlying hT]
  cases p <;> rfl
/-- A slice held against nil. -/
theorem r_snil {p : Option Addr} {n c : Nat} (hT : P.underlying T = some (.slice E)) (hx : ev t x = .slice p n c) (hy : ev t y = .slice none 0 0) : Rv P ⟨d, .binOp .eql T x y T', ty, ps, af, g⟩ t w (.bool p.isNone) := by
  have h1 : (Op.equal T (.slice p n c) (.slice none 0 0)).run P w = .ok p.isNone w := run_equalIn_snil (w := w) 9999 hT
  unfold Rv; simp [execOp, hx, hy, eqGuard, binOp, Sem.run_bind, h1]
theorem own_form {α : Type} {e : Enc α} {v : Value} {l : List α} (h : (Rs.own e E v l).inv w) : ∃ p n c, v = .slice p n c := by
  rcases h.2 with ⟨h, _⟩ | ⟨b, cap, cur, h, _⟩
  · exact ⟨_, _, _, h⟩
  · exact ⟨_, _, _, h⟩
theorem rd_form {α : Type} {κ : Kd α} {F : Nat → Prop} {v : Value} {l : List α} (h : Rd κ w F v l) : ∃ p n c, v = .slice p n c := by
  obtain ⟨p, c, h, _⟩ := h
  exact ⟨_, _, _, h⟩
/-- Rows that lie in a literal. -/
def RdAll {α : Type} (κ : Kd α) (w : World) (F : Nat → Prop) : List Value → List (List α) → Prop
  | [], [] => True
  | v :: vs, l :: ls => Rd κ w F v l ∧ RdAll κ w F vs ls
  | _, _ => False
theorem RdAll.get {α : Type} {κ : Kd α} {w : World} {F : Nat → Prop} : ∀ {vs : List Value} {ls : List (List α)}, RdAll κ w F vs ls → ∀ {i : Nat} {l : List α}, ls[i]? = some l → ∃ v, vs[i]? = some v ∧ Rd κ w F v l
  | [], [], _, i, l, h => by simp at h
  | v :: vs, l' :: ls, h, 0, l, hi => by simp at hi; subst hi; exact ⟨v, rfl, h.1⟩
  | v :: vs, l' :: ls, h, i + 1, l, hi => by
    simp only [List.getElem?_cons_succ] at hi ⊢
    exact RdAll.get h.2 hi
  | [], _ :: _, h, _, _, _ => h.elim
  | _ :: _, [], h, _, _, _ => h.elim
theorem rd_rows {α : Type} {κ : Kd α} {b n : Nat} {cs : Array Value} {ls : List (List α)} (H : St X w0 w L) (q : Nat) (hq : L[q]? = some (.blk b cs T)) (hn : ls.length = n) (hle : Nat.ble n 1000000 = true) (h : RdAll κ w (Ol no w) cs.toList ls) :
    Rd (.sl κ) w (Ol no w) (.slice (some ⟨b, 0, none⟩) n n) ls := by
  have hb := H.get q hq
  have hle' := Nat.le_of_ble_eq_true hle
  refine ⟨_, n, by rw [hn], by omega, by unfold maxLen; omega, .inr ⟨b, 0, rfl, ⟨(Rs.blk b cs T).bd w hb b rfl, fun x => x⟩, fun i x hx => ?_⟩⟩
  obtain ⟨v, hv, hr⟩ := h.get hx
  refine ⟨[v], ⟨v, rfl, hr⟩, fun j u hj => ?_⟩
  match j with
  | 0 =>
    simp at hj
    subst hj
    have : cs[i]? = some v := by rw [← hv]; simp
    have e1 : 0 + i * (Kd.sl κ).sz + 0 = i := by show 0 + i * 1 + 0 = i; omega
    rw [e1]
    exact blk_cell hb this
  | j + 1 => simp at hj
end
end Go.Proofs.Ythfhhnlnlcbckaa.Gw
