/- Slices: read, and the call's own. -/
import Derived.Test.YthfhhnlnlcbckaaGm
namespace Go.Proofs.Ythfhhnlnlcbckaa.Gw
open Go Go.RowKit
set_option linter.unusedSimpArgs false
set_option linter.unusedVariables false

/-- What has its cells alone. -/
structure Enc (α : Type) where
  sz : Nat
  en : α → List Value
  len : ∀ a, (en a).length = sz
  one : ∀ a v, v ∈ en a → v.oneCell' = true
def Enc.int (k : IntKind) : Enc Int := ⟨1, fun a => [.int k a], fun _ => rfl, fun a v h => by simp at h; subst h; rfl⟩
def Enc.bool : Enc Bool := ⟨1, fun a => [.bool a], fun _ => rfl, fun a v h => by simp at h; subst h; rfl⟩
def Enc.pr {α β : Type} (e : Enc α) (f : Enc β) : Enc (α × β) :=
  ⟨e.sz + f.sz, fun a => e.en a.1 ++ f.en a.2, fun a => by simp [e.len, f.len], fun a v h => by
    rcases List.mem_append.1 h with h | h
    · exact e.one _ _ h
    · exact f.one _ _ h⟩
/-- What may lead on. -/
structure Kd (α : Type) where
  sz : Nat
  K : World → (Nat → Prop) → α → List Value → Prop
  len : ∀ w F a cs, K w F a cs → cs.length = sz
  keep : ∀ w w' F a cs, (∀ b, F b → w'.heap[b]? = w.heap[b]?) → K w F a cs → K w' F a cs
  mono : ∀ w F G a cs, (∀ b, F b → G b) → K w F a cs → K w G a cs
def Kd.of {α : Type} (e : Enc α) : Kd α := ⟨e.sz, fun _ _ a cs => cs = e.en a, fun _ _ a cs h => by rw [h]; exact e.len a, fun _ _ _ _ _ _ h => h, fun _ _ _ _ _ _ h => h⟩
theorem rangeAt_keep {w w' : World} {b o : Nat} {cs : List Value} (h : w'.heap[b]? = w.heap[b]?) (hr : w.rangeAt b o cs) : w'.rangeAt b o cs :=
  fun j v hv => (World.cell?_of_block (w := w) (a := ⟨b, o + j, none⟩) h).trans (hr j v hv)
/-- The slice v reads as l; all blocks that are read lie in F. -/
def Rd {α : Type} (κ : Kd α) (w : World) (F : Nat → Prop) (v : Value) (l : List α) : Prop :=
  ∃ p c, v = .slice p l.length c ∧ l.length ≤ c ∧ c ≤ maxLen ∧ ((l = [] ∧ p = none ∧ c = 0) ∨ ∃ b o, p = some ⟨b, o, none⟩ ∧ F b ∧ ∀ i x, l[i]? = some x → ∃ cs, κ.K w F x cs ∧ w.rangeAt b (o + i * κ.sz) cs)
theorem Rd.keep {α : Type} {κ : Kd α} {w w' : World} {F : Nat → Prop} {v : Value} {l : List α} (h : Rd κ w F v l) (hk : ∀ b, F b → w'.heap[b]? = w.heap[b]?) : Rd κ w' F v l := by
  obtain ⟨p, c, h1, h2, h3, h4⟩ := h
  refine ⟨p, c, h1, h2, h3, h4.imp id ?_⟩
  rintro ⟨b, o, h5, h6, h7⟩
  exact ⟨b, o, h5, h6, fun i x hx => let ⟨cs, a, r⟩ := h7 i x hx; ⟨cs, κ.keep _ _ _ _ _ hk a, rangeAt_keep (hk b h6) r⟩⟩
theorem Rd.mono {α : Type} {κ : Kd α} {w : World} {F G : Nat → Prop} {v : Value} {l : List α} (h : Rd κ w F v l) (hk : ∀ b, F b → G b) : Rd κ w G v l := by
  obtain ⟨p, c, h1, h2, h3, h4⟩ := h
  refine ⟨p, c, h1, h2, h3, h4.imp id ?_⟩
  rintro ⟨b, o, h5, h6, h7⟩
  exact ⟨b, o, h5, hk b h6, fun i x hx => let ⟨cs, a, r⟩ := h7 i x hx; ⟨cs, κ.mono _ _ _ _ _ hk a, r⟩⟩
def Kd.sl {α : Type} (κ : Kd α) : Kd (List α) :=
  ⟨1, fun w F l cs => ∃ v, cs = [v] ∧ Rd κ w F v l, fun _ _ _ _ ⟨_, h, _⟩ => by rw [h]; rfl, fun _ _ _ _ _ hk ⟨v, h1, h2⟩ => ⟨v, h1, h2.keep hk⟩, fun _ _ _ _ _ hk ⟨v, h1, h2⟩ => ⟨v, h1, h2.mono hk⟩⟩
def Kd.pr {α β : Type} (κ : Kd α) (μ : Kd β) : Kd (α × β) :=
  ⟨κ.sz + μ.sz, fun w F x cs => ∃ a b, cs = a ++ b ∧ κ.K w F x.1 a ∧ μ.K w F x.2 b, fun _ _ _ _ ⟨_, _, h, h1, h2⟩ => by rw [h, List.length_append, κ.len _ _ _ _ h1, μ.len _ _ _ _ h2],
   fun _ _ _ _ _ hk ⟨a, b, h, h1, h2⟩ => ⟨a, b, h, κ.keep _ _ _ _ _ hk h1, μ.keep _ _ _ _ _ hk h2⟩, fun _ _ _ _ _ hk ⟨a, b, h, h1, h2⟩ => ⟨a, b, h, κ.mono _ _ _ _ _ hk h1, μ.mono _ _ _ _ _ hk h2⟩⟩

/-- A place of a slice's. -/
def adr (v : Value) (n : Nat) : Option Addr :=
  match v with
  | .slice (some a) _ _ => some ⟨a.block, a.off + n, none⟩
  | _ => none
theorem Rd.lt {α : Type} {κ : Kd α} {w : World} {F : Nat → Prop} {v : Value} {l : List α} (h : Rd κ w F v l) : l.length ≤ maxLen := by
  obtain ⟨p, c, h1, h2, h3, h4⟩ := h; omega
theorem Rd.len63 {α : Type} {κ : Kd α} {w : World} {F : Nat → Prop} {v : Value} {l : List α} (h : Rd κ w F v l) : (l.length : Int) ≤ 9223372036854775807 := by
  have := h.lt; unfold maxLen at this; omega
theorem Rd.nil {α : Type} (κ : Kd α) (w : World) (F : Nat → Prop) : Rd κ w F (.slice none 0 0) [] := ⟨none, 0, rfl, Nat.le_refl _, Nat.zero_le _, .inl ⟨rfl, rfl, rfl⟩⟩
/-- The cell at place i, part j. -/
theorem Rd.cellE {α : Type} {e : Enc α} {w : World} {F : Nat → Prop} {v : Value} {l : List α} (h : Rd (.of e) w F v l) {i j : Nat} {x : α} {u : Value} (hx : l[i]? = some x) (hu : (e.en x)[j]? = some u) :
    ∃ a, adr v (i * e.sz + j) = some a ∧ w.cell? a = some u := by
  obtain ⟨p, c, h1, h2, h3, h4⟩ := h
  rcases h4 with ⟨h4, _⟩ | ⟨b, o, h5, h6, h7⟩
  · subst h4; simp at hx
  · obtain ⟨cs, hk, hr⟩ := h7 i x hx
    have hk' : cs = e.en x := hk
    subst hk'
    refine ⟨⟨b, o + (i * e.sz + j), none⟩, by subst h1; subst h5; rfl, ?_⟩
    have := hr j u hu
    rw [← Nat.add_assoc]; exact this

section
variable {P : Program} {ρ : Option Nat} {N : Nat} {t : Fr} {w : World} {R : Value → World → Prop} {d : Option Nat} {ty T T' : TypeId} {ps : String} {af : Array Edge} {g : Option (Nat × Bool)} {x y z : Operand} {k : IntKind} {α : Type}
theorem r_lenR {κ : Kd α} {F : Nat → Prop} {l : List α} {v : Value} {E : TypeId} {TS : Array TypeId} (hT : (TS[0]?).bind P.underlying = some (.slice E)) (h : Rd κ w F v l) (hx : ev t x = v) :
    Rv P ⟨d, .call ⟨.builtin .len, #[x], TS⟩, ty, ps, af, g⟩ t w (.int .i64 l.length) := by
  obtain ⟨p, c, h1, h2, h3, h4⟩ := h
  exact r_len hT (hx.trans h1)
theorem r_idx {κ : Kd α} {F : Nat → Prop} {l : List α} {v : Value} {E by_ : Nat} {zz : Value} {i : Int} (hT : Sl P T E κ.sz by_ zz) (h : Rd κ w F v l) (hx : ev t x = v) (hy : ev t y = .int k i) (h0 : 0 ≤ i) (h1 : i < l.length) :
    Rv P ⟨d, .indexAddr T x y, ty, ps, af, g⟩ t w (.pointer (adr v (i.toNat * κ.sz))) := by
  obtain ⟨p, c, h2, h3, h4, h5⟩ := h
  rcases h5 with ⟨h5, _⟩ | ⟨b, o, h5, h6, h7⟩
  · subst h5; simp at h1; omega
  · subst h5; subst h2
    exact r_iaddr hT hx hy h0 h1
theorem r_adrF {f off n : Nat} {v : Value} {a : Addr} (hT : Fa P T f off) (ha : adr v n = some a) (hx : ev t x = .pointer (adr v n)) : Rv P ⟨d, .fieldAddr T x f, ty, ps, af, g⟩ t w (.pointer (adr v (n + off))) := by
  cases v with
  | slice p m c =>
    cases p with
    | none => simp [adr] at ha
    | some q =>
      have := r_faddr (d := d) (ty := ty) (ps := ps) (af := af) (g := g) (w := w) (b := q.block) (o := q.off + n) hT hx
      simpa only [adr, Nat.add_assoc] using this
  | _ => simp [adr] at ha
/-- A load of the cell j of element i. -/
theorem r_ldE {e : Enc α} {F : Nat → Prop} {l : List α} {v u : Value} {i j : Nat} {a : α} (hT : Sc P T) (h : Rd (.of e) w F v l) (ha : l[i]? = some a) (hu : (e.en a)[j]? = some u) (hx : ev t x = .pointer (adr v (i * e.sz + j))) :
    Rv P ⟨d, .load T x, ty, ps, af, g⟩ t w u := by
  obtain ⟨p, h1, h2⟩ := h.cellE ha hu
  rw [h1] at hx
  exact r_load hT hx h2
/-- The element at a place: what a list of numbers has there. -/
def at_ {α : Type} (z : α) (l : List α) (i : Int) : α := l.getD i.toNat z
theorem at_get {α : Type} (z : α) {l : List α} {i : Int} (h0 : 0 ≤ i) (h1 : i < l.length) : l[i.toNat]? = some (at_ z l i) := by
  unfold at_; rw [List.getD_eq_getElem?_getD, List.getElem?_eq_getElem (by omega)]; rfl
theorem r_ldI {k' : IntKind} {F : Nat → Prop} {l : List Int} {v : Value} {i : Int} (hT : Sc P T) (h : Rd (.of (.int k')) w F v l) (h0 : 0 ≤ i) (h1 : i < l.length) (hx : ev t x = .pointer (adr v (i.toNat * 1))) :
    Rv P ⟨d, .load T x, ty, ps, af, g⟩ t w (.int k' (at_ 0 l i)) :=
  r_ldE (j := 0) hT h (at_get 0 h0 h1) rfl hx
end

/-! ### Rows of the call's own -/
def Enc.all {α : Type} (e : Enc α) (l : List α) : List Value := l.flatMap e.en
theorem Enc.all_len {α : Type} (e : Enc α) (l : List α) : (e.all l).length = l.length * e.sz := by
  induction l with
  | nil => simp [Enc.all]
  | cons a l ih => simp only [Enc.all, List.flatMap_cons, List.length_append, e.len, List.length_cons] at ih ⊢; rw [ih, Nat.add_mul]; omega
theorem Enc.all_get {α : Type} (e : Enc α) (l : List α) {i j : Nat} {a : α} {u : Value} (ha : l[i]? = some a) (hu : (e.en a)[j]? = some u) : (e.all l)[i * e.sz + j]? = some u := by
  induction l generalizing i with
  | nil => simp at ha
  | cons b l ih =>
    simp only [Enc.all, List.flatMap_cons]
    have hj : j < e.sz := by
      have := (List.getElem?_eq_some_iff.1 hu).1; rw [e.len] at this; exact this
    cases i with
    | zero =>
      simp only [List.getElem?_cons_zero, Option.some.injEq] at ha; subst ha
      rw [List.getElem?_append_left (by rw [e.len]; omega)]; simpa using hu
    | succ i =>
      have h1 : (e.en b).length ≤ (i + 1) * e.sz + j := by rw [e.len, Nat.add_mul]; omega
      rw [List.getElem?_append_right h1, e.len]
      have h2 : (i + 1) * e.sz + j - e.sz = i * e.sz + j := by rw [Nat.add_mul]; omega
      rw [h2]
      exact ih (by simpa using ha)
def Rs.own {α : Type} (e : Enc α) (E : TypeId) (v : Value) (l : List α) : Rs := .row E e.sz v l.length (e.all l)
theorem own_rd {α : Type} {e : Enc α} {E : TypeId} {v : Value} {l : List α} {w : World} (h : (Rs.own e E v l).inv w) : Rd (.of e) w (Rs.own e E v l).fp v l := by
  obtain ⟨_, h2⟩ := h
  rcases h2 with ⟨h2, h3⟩ | ⟨g, cap, cur, hv, _, hh, h4, h5, h6, h7⟩
  · have : l = [] := List.eq_nil_of_length_eq_zero h3
    subst this; subst h2
    exact Rd.nil _ _ _
  · refine ⟨_, cap, hv, h4, h5, .inr ⟨g, 0, rfl, by show v.ownBlock = some g; rw [hv]; rfl, fun i x hx => ⟨e.en x, rfl, fun j u hu => ?_⟩⟩⟩
    have h8 := e.all_get l hx hu
    rw [← h7] at h8
    have h9 : cur[i * e.sz + j]? = some u := by
      rw [List.getElem?_take] at h8
      split at h8
      · simpa using h8
      · cases h8
    show w.cell? ⟨g, 0 + i * (Kd.of e).sz + j, none⟩ = some u
    simp only [Kd.of, Nat.zero_add]
    simp [World.cell?, hh, h9]

theorem Enc.all_split {α : Type} (e : Enc α) (hs : 0 < e.sz) : ∀ (l : List α) {j : Nat} {u : Value}, (e.all l)[j]? = some u → ∃ i r a, l[i]? = some a ∧ (e.en a)[r]? = some u ∧ j = i * e.sz + r
  | [], j, u, h => by simp [Enc.all] at h
  | a :: l, j, u, h => by
    simp only [Enc.all, List.flatMap_cons] at h
    by_cases hj : j < e.sz
    · rw [List.getElem?_append_left (by rw [e.len]; exact hj)] at h
      exact ⟨0, j, a, rfl, h, by omega⟩
    · rw [List.getElem?_append_right (by rw [e.len]; omega), e.len] at h
      obtain ⟨i, r, b, h1, h2, h3⟩ := Enc.all_split e hs l h
      exact ⟨i + 1, r, b, by simpa using h1, h2, by rw [Nat.add_mul]; omega⟩
theorem Rd.cells {α : Type} {e : Enc α} {w : World} {F : Nat → Prop} {v : Value} {l : List α} (h : Rd (.of e) w F v l) (hs : 0 < e.sz) {a : Addr} {n c : Nat} (hv : v = .slice (some a) n c) :
    n = l.length ∧ ∀ j u, (e.all l)[j]? = some u → w.cell? (a.add j) = some u := by
  obtain ⟨p, c', h1, h2, h3, h4⟩ := h
  rw [h1] at hv
  cases hv
  refine ⟨rfl, fun j u hu => ?_⟩
  rcases h4 with ⟨_, h5, _⟩ | ⟨b, o, h5, h6, h7⟩
  · cases h5
  · cases h5
    obtain ⟨i, r, x, hx, hr, hj⟩ := e.all_split hs l hu
    obtain ⟨cs, hk, hra⟩ := h7 i x hx
    have hk' : cs = e.en x := hk
    subst hk'
    rw [Addr.add_mid, hj, ← Nat.add_assoc]
    exact hra r u hr
theorem Enc.all_one {α : Type} (e : Enc α) (l : List α) : ∀ u ∈ e.all l, u.oneCell' = true := by
  intro u hu
  obtain ⟨a, _, h⟩ := List.mem_flatMap.1 hu
  exact e.one a u h
theorem Enc.all_app {α : Type} (e : Enc α) (l m : List α) : e.all (l ++ m) = e.all l ++ e.all m := by simp [Enc.all, List.flatMap_append]

/-- An append onto a row of the call's own. -/
theorem run_app {P : Program} {α : Type} {e : Enc α} {w : World} {T E by_ : Nat} {z : Value} {ty : TypeId} {v u : Value} {l m : List α} {F : Nat → Prop} (hT : Sl P T E e.sz by_ z)
    (hv : (Rs.own e E v l).inv w) (hu : Rd (.of e) w F u m) (hb : (l.length + m.length) * by_ ≤ 140737488355328) (h63 : l.length + m.length ≤ maxLen) :
    ∃ v' w', (Builtin.append_ #[T, T] ty #[v, u]).run P w = .ok v' w' ∧ (Rs.own e E v' (l ++ m)).inv w' ∧ Ch (Rs.own e E v l).fp w w' ∧ (∀ b, (Rs.own e E v' (l ++ m)).fp b → (Rs.own e E v l).fp b ∨ w.heap.size ≤ b) := by
  obtain ⟨t1, i, t2, t3, t4, t5, t6, t7⟩ := hT
  have hsrc := hu
  obtain ⟨p, c, h1, h2, h3, h4⟩ := hu
  cases p with
  | none =>
    have hm : m = [] := by
      rcases h4 with ⟨h, _⟩ | ⟨b, o, h, _⟩
      · exact h
      · cases h
    have hc : c = 0 := by
      rcases h4 with ⟨_, _, h⟩ | ⟨b, o, h, _⟩
      · exact h
      · cases h
    subst hm; subst hc
    have := run_append_owned_none (P := P) w 0 T ty E i e.sz t1 t2 v l.length (e.all l) hv
    refine ⟨v, w, by rw [h1]; exact this, by rw [List.append_nil]; exact hv, .refl _ _, fun b hb => .inl (by rw [List.append_nil] at hb; exact hb)⟩
  | some a =>
    obtain ⟨_, hcells⟩ := hsrc.cells t7 h1
    have hl : (e.all m).length = m.length * e.sz := e.all_len m
    rcases hv.2 with ⟨hn, hl0⟩ | ⟨g, cap, cur, hg, _, hh, hnc, hcm, hcs, htk⟩
    · have hl' : l = [] := List.eq_nil_of_length_eq_zero hl0
      subst hl'; subst hn
      obtain ⟨v', w', hr, ho, hgr, _⟩ := run_append_own (P := P) w w.heap.size T ty E i z e.sz by_ t1 t2 t5 t3 t4 t6 t7 (.slice none 0 0) 0 [] (World.ownsRow_nil w w.heap.size E e.sz) a m.length c (e.all m) hl hcells (e.all_one m) (by simpa using h63) (by simpa using hb) (Nat.le_refl _)
      refine ⟨v', w', by rw [h1]; exact hr, ?_, .grown hgr (fun k hk => by cases hk), fun b hb => .inr ?_⟩
      · obtain ⟨o1, o2⟩ := ho
        refine ⟨by simpa [List.nil_append] using o1, ?_⟩
        rcases o2 with ⟨o2, o3⟩ | ⟨g, cap, cur, o2, _, o4, o5, o6, o7, o8⟩
        · exact .inl ⟨o2, by simpa using o3⟩
        · exact .inr ⟨g, cap, cur, by simpa using o2, Nat.zero_le _, o4, by simpa using o5, o6, o7, by simpa using o8⟩
      · obtain ⟨o1, o2⟩ := ho
        have hb' : v'.ownBlock = some b := hb
        rcases o2 with ⟨o2, o3⟩ | ⟨g, cap, cur, o2, o3, _⟩
        · rw [o2] at hb'; cases hb'
        · rw [o2] at hb'; cases hb'; exact o3
    · by_cases hroom : l.length + m.length ≤ cap
      · subst hg
        obtain ⟨w', hr, ho, hgr⟩ := run_append_fits (P := P) w 0 T ty E i e.sz t1 t2 t3 g l.length cap (e.all l) hv a m.length c (e.all m) hl hcells (e.all_one m) hroom
        refine ⟨.slice (some ⟨g, 0, none⟩) (l.length + m.length) cap, w', by rw [h1]; exact hr, ?_, .grown hgr (fun k hk => hk), fun b hb => .inl hb⟩
        show w'.ownsRow 0 E e.sz _ (l ++ m).length (e.all (l ++ m))
        rw [List.length_append, e.all_app]; exact ho
      · subst hg
        have holds : ∀ j u, (e.all l)[j]? = some u → w.cell? ((⟨g, 0, none⟩ : Addr).add j) = some u := World.ownsRow.cells (g := g) hv rfl
        have hr2 := run_append_grow (P := P) (ty := ty) w T E i z t1 t2 t5 ⟨g, 0, none⟩ l.length cap (e.all l) (by rw [t3]; exact e.all_len l) holds a m.length c (e.all m) (by rw [t3]; exact hl) hcells (by omega) (by unfold maxLen at h63; omega) (by rw [t4]; exact growslice_fits (by omega) hb)
        obtain ⟨v', w', hr, ho, hgr, _⟩ := run_append_own (P := P) w 0 T ty E i z e.sz by_ t1 t2 t5 t3 t4 t6 t7 _ l.length (e.all l) hv a m.length c (e.all m) hl hcells (e.all_one m) h63 hb (Nat.zero_le _)
        have heq := hr.symm.trans hr2
        refine ⟨v', w', by rw [h1]; exact hr, ?_, .grown hgr (fun k hk => hk), fun b hb => .inr ?_⟩
        · show w'.ownsRow 0 E e.sz _ (l ++ m).length (e.all (l ++ m))
          rw [List.length_append, e.all_app]; exact ho
        · have hv' : v' = .slice (some ⟨w.heap.size, 0, none⟩) (l.length + m.length) (grownCap w (l.length + m.length) cap E) := by
            injection heq
          have hb' : v'.ownBlock = some b := hb
          rw [hv'] at hb'; cases hb'; exact Nat.le_refl _

section
variable {P : Program} {ρ : Option Nat} {N : Nat} {t : Fr} {w w0 : World} {X : Nat → Prop} {L : List Rs} {R : Value → World → Prop} {d : Option Nat} {ty T T' : TypeId} {ps : String} {af : Array Edge} {g : Option (Nat × Bool)} {x y z : Operand} {α : Type}
theorem y_app {e : Enc α} {E by_ : Nat} {zz : Value} {v u : Value} {l m : List α} {F : Nat → Prop} (hT : Sl P T E e.sz by_ zz) (H : St X w0 w L) (k : Nat) (hk : L[k]? = some (.own e E v l)) (hu : Rd (.of e) w F u m)
    (hx : ev t x = v) (hy : ev t y = u) (hb : (l.length + m.length) * by_ ≤ 140737488355328) (h63 : l.length + m.length ≤ maxLen)
    (h : ∀ v' w', St X w0 w' (L.set k (.own e E v' (l ++ m))) → R v' w') : Yd P ρ N ⟨d, .call ⟨.builtin .append, #[x, y], #[T, T]⟩, ty, ps, af, g⟩ t w R := by
  obtain ⟨v', w', h1, h2, h3, h4⟩ := run_app (ty := ty) hT (H.get k hk) hu hb h63
  refine y_val (v := v') (w' := w') ?_ (h v' w' (H.put k hk h3 h2 h4))
  simp [execOp, resolve, invoke, builtin, hx, hy, h1]
end
end Go.Proofs.Ythfhhnlnlcbckaa.Gw
