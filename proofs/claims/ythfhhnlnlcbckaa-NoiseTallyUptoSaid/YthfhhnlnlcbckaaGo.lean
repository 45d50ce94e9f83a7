/- Rows of rows that a call makes: the headers' row and the rows, one thing. -/
import Derived.Test.YthfhhnlnlcbckaaGf
namespace Go.Proofs.Ythfhhnlnlcbckaa.Gw
open Go Go.RowKit
set_option linter.unusedSimpArgs false
set_option linter.unusedVariables false
abbrev Sv := Option Addr × Nat × Nat
def sv (a : Sv) : Value := .slice a.1 a.2.1 a.2.2
def hz : Sv := (none, 0, 0)
def Enc.slc : Enc Sv := ⟨1, fun a => [sv a], fun _ => rfl, fun a v h => by simp at h; subst h; rfl⟩
/-- Nothing. -/
def Rs.nul : Rs := ⟨fun _ => False, fun _ => True, fun _ _ _ h => h, fun _ _ _ h => h.elim⟩
section
variable {X : Nat → Prop} {w0 w w' : World} {L : List Rs}
theorem St.absorb (H : St X w0 w L) (q q2 : Nat) {r s r' : Rs} (hq : L[q]? = some r) (hs : L[q2]? = some s) (hne : (q == q2) = false) (h : Ch r.fp w w') (hr : r'.inv w') (hf : ∀ b, r'.fp b → r.fp b ∨ s.fp b ∨ w.heap.size ≤ b) :
    St X w0 w' ((L.set q r').set q2 .nul) := by
  have hne' : q ≠ q2 := by simpa using hne
  obtain ⟨l1, e1⟩ := List.getElem?_eq_some_iff.1 hq
  obtain ⟨l2, e2⟩ := List.getElem?_eq_some_iff.1 hs
  have mr := List.mem_of_getElem? hq
  have ms := List.mem_of_getElem? hs
  have apart : ∀ i j (hi : i < L.length) (hj : j < L.length), i ≠ j → ∀ b, L[i].fp b → ¬ L[j].fp b := by
    intro i j hi hj hij b x y
    rcases Nat.lt_or_gt_of_ne hij with hl | hl
    · exact (List.pairwise_iff_getElem.1 H.dj) i j hi hj hl b x y
    · exact (List.pairwise_iff_getElem.1 H.dj) j i hj hi hl b y x
  have get : ∀ j (hj : j < ((L.set q r').set q2 .nul).length), ∃ hj' : j < L.length, (j = q2 ∧ ((L.set q r').set q2 .nul)[j] = .nul) ∨ (j = q ∧ j ≠ q2 ∧ ((L.set q r').set q2 .nul)[j] = r') ∨ (j ≠ q ∧ j ≠ q2 ∧ ((L.set q r').set q2 .nul)[j] = L[j]) := by
    intro j hj
    have hj' : j < L.length := by simpa using hj
    refine ⟨hj', ?_⟩
    by_cases h2 : j = q2
    · subst h2; exact .inl ⟨rfl, by simp⟩
    · by_cases h1 : j = q
      · subst h1; exact .inr (.inl ⟨rfl, h2, by simp [List.getElem_set, Ne.symm h2]⟩)
      · exact .inr (.inr ⟨h1, h2, by simp [List.getElem_set, Ne.symm h1, Ne.symm h2]⟩)
  have D : ∀ j (hj : j < L.length), j ≠ q → j ≠ q2 → ∀ b, r'.fp b → ¬ L[j].fp b := by
    intro j hj h1 h2 b hb hb'
    rcases hf b hb with h3 | h3 | h3
    · exact apart q j l1 hj (Ne.symm h1) b (by rw [e1]; exact h3) hb'
    · exact apart q2 j l2 hj (Ne.symm h2) b (by rw [e2]; exact h3) hb'
    · have := L[j].bd w (H.inv _ (List.getElem_mem hj)) b hb'; omega
  refine ⟨H.ch.trans' h (fun b hb x => (H.fp r mr b x).resolve_left (by omega)), ?_, ?_, ?_⟩
  · intro t ht
    obtain ⟨j, hj, rfl⟩ := List.getElem_of_mem ht
    obtain ⟨hj', c | c | c⟩ := get j hj
    · rw [c.2]; exact trivial
    · rw [c.2.2]; exact hr
    · rw [c.2.2]
      exact Rs.keep (H.inv _ (List.getElem_mem hj')) h (fun b x y => apart j q hj' l1 c.1 b x (by rw [e1]; exact y))
  · intro t ht b hb
    obtain ⟨j, hj, rfl⟩ := List.getElem_of_mem ht
    obtain ⟨hj', c | c | c⟩ := get j hj
    · rw [c.2] at hb; exact hb.elim
    · rw [c.2.2] at hb
      rcases hf b hb with h3 | h3 | h3
      · exact H.fp r mr b h3
      · exact H.fp s ms b h3
      · exact .inl (Nat.le_trans H.ch.size h3)
    · rw [c.2.2] at hb; exact H.fp _ (List.getElem_mem hj') b hb
  · rw [List.pairwise_iff_getElem]
    intro i j hi hj hij b x y
    obtain ⟨hi', c | c | c⟩ := get i hi
    · rw [c.2] at x; exact x
    · rw [c.2.2] at x
      obtain ⟨hj', d | d | d⟩ := get j hj
      · rw [d.2] at y; exact y
      · omega
      · rw [d.2.2] at y; exact D j hj' d.1 d.2.1 b x y
    · rw [c.2.2] at x
      obtain ⟨hj', d | d | d⟩ := get j hj
      · rw [d.2] at y; exact y
      · rw [d.2.2] at y; exact D i hi' c.1 c.2.1 b y x
      · rw [d.2.2] at y; exact apart i j hi' hj' (by omega) b x y
end
section
variable {α : Type}
/-- Rows of the call's own. -/
def Rs.rows (e : Enc α) (Er Ev : TypeId) (v : Value) (us : List Sv) (ls : List (List α)) : Rs where
  fp := fun x => v.ownBlock = some x ∨ ∃ u ∈ us, (sv u).ownBlock = some x
  inv := fun w => (Rs.own Enc.slc Ev v us).inv w ∧ us.length = ls.length ∧ (∀ i u l, us[i]? = some u → ls[i]? = some l → (Rs.own e Er (sv u) l).inv w) ∧
    (∀ u ∈ us, ∀ b, (sv u).ownBlock = some b → v.ownBlock ≠ some b) ∧ us.Pairwise (fun u u' => ∀ b, (sv u).ownBlock = some b → (sv u').ownBlock ≠ some b)
  loc := fun w w' h ⟨h1, h2, h3, h4, h5⟩ => ⟨(Rs.own Enc.slc Ev v us).loc w w' (fun b hb => h b (.inl hb)) h1, h2,
    fun i u l hu hl => (Rs.own e Er (sv u) l).loc w w' (fun b hb => h b (.inr ⟨u, List.mem_of_getElem? hu, hb⟩)) (h3 i u l hu hl), h4, h5⟩
  bd := fun w ⟨h1, h2, h3, h4, h5⟩ x hx => by
    rcases hx with hx | ⟨u, hu, hx⟩
    · exact (Rs.own Enc.slc Ev v us).bd w h1 x hx
    · obtain ⟨i, hi, rfl⟩ := List.getElem_of_mem hu
      exact (Rs.own e Er (sv us[i]) ls[i]).bd w (h3 i _ _ (List.getElem?_eq_getElem hi) (List.getElem?_eq_getElem (by omega))) x hx
variable {e : Enc α} {Er Ev : TypeId} {v : Value} {us : List Sv} {ls : List (List α)} {w : World}
theorem rows_at {i : Int} (h : (Rs.rows e Er Ev v us ls).inv w) (h0 : 0 ≤ i) (h1 : i < ls.length) : us[i.toNat]? = some (at_ hz us i) ∧ ls[i.toNat]? = some (at_ [] ls i) ∧ (Rs.own e Er (sv (at_ hz us i)) (at_ [] ls i)).inv w := by
  have e1 := at_get hz (l := us) h0 (by rw [h.2.1]; exact h1)
  have e2 := at_get ([] : List α) h0 h1
  exact ⟨e1, e2, h.2.2.1 _ _ _ e1 e2⟩
/-- All of them. -/
theorem rows_rd (h : (Rs.rows e Er Ev v us ls).inv w) : Rd (.sl (.of e)) w (Rs.rows e Er Ev v us ls).fp v ls := by
  have hd := own_rd h.1
  obtain ⟨p, c, h1, h2, h3, h4⟩ := hd
  refine ⟨p, c, by rw [h1, h.2.1], by rw [← h.2.1]; exact h2, h3, ?_⟩
  rcases h4 with ⟨h5, h6, h7⟩ | ⟨b, o, h5, h6, h7⟩
  · exact .inl ⟨List.eq_nil_of_length_eq_zero (by rw [← h.2.1, h5]; rfl), h6, h7⟩
  · refine .inr ⟨b, o, h5, .inl h6, fun i l hl => ?_⟩
    have hi : i < us.length := by rw [h.2.1]; exact (List.getElem?_eq_some_iff.1 hl).1
    obtain ⟨cs, hc, hr⟩ := h7 i us[i] (List.getElem?_eq_getElem hi)
    have hc' : cs = [sv us[i]] := hc
    refine ⟨cs, ⟨sv us[i], hc', ?_⟩, hr⟩
    exact (own_rd (h.2.2.1 i _ _ (List.getElem?_eq_getElem hi) hl)).mono fun b hb => .inr ⟨us[i], List.getElem_mem hi, hb⟩
/-- One of them. -/
theorem row_rd {i : Int} (h : (Rs.rows e Er Ev v us ls).inv w) (h0 : 0 ≤ i) (h1 : i < ls.length) : Rd (.of e) w (Rs.rows e Er Ev v us ls).fp (sv (at_ hz us i)) (at_ [] ls i) := by
  obtain ⟨e1, e2, e3⟩ := rows_at h h0 h1
  exact (own_rd e3).mono fun b hb => .inr ⟨_, List.mem_of_getElem? e1, hb⟩
end
section
variable {P : Program} {ρ : Option Nat} {N : Nat} {Q : Exit → Fr → World → Prop} {t : Fr} {w w0 : World} {X : Nat → Prop} {L M : List Rs} {R : Value → World → Prop} {d : Option Nat} {ty T T' : TypeId} {ps : String} {af : Array Edge} {g : Option (Nat × Bool)} {x y : Operand} {α : Type} {e : Enc α} {Er Ev : TypeId} {v : Value} {us : List Sv} {ls : List (List α)}
theorem St.nilRows (H : St X w0 w L) (e : Enc α) (Er Ev : TypeId) : St X w0 w (L ++ [.rows e Er Ev (.slice none 0 0) [] []]) :=
  H.new (.refl _ _) ⟨⟨by simp [Enc.all], .inl ⟨rfl, rfl⟩⟩, rfl, fun i u l h => by simp at h, fun u h => by simp at h, .nil⟩ (fun b hb => by rcases hb with hb | ⟨u, hu, _⟩; cases hb; simp at hu)
/-- New rows, all nil. -/
theorem St.mkRows {n : Nat} (H : St X w0 w L) (e : Enc α) (Er : TypeId) (q : Nat) (hq : L[q]? = some (.own Enc.slc Ev v (List.replicate n hz))) : St X w0 w (L.set q (.rows e Er Ev v (List.replicate n hz) (List.replicate n []))) :=
  H.put q hq (.refl _ _) ⟨H.get q hq, by simp, fun i u l hu hl => by
      have e1 : u = hz := by rw [List.getElem?_replicate] at hu; split at hu <;> cases hu; rfl
      have e2 : l = [] := by rw [List.getElem?_replicate] at hl; split at hl <;> cases hl; rfl
      subst e1; subst e2
      exact ⟨by simp [Enc.all], .inl ⟨rfl, rfl⟩⟩,
    (fun u hu b hb => by rw [List.eq_of_mem_replicate hu] at hb; cases hb), List.pairwise_replicate.2 (.inr fun b hb => by cases hb)⟩
    (fun b hb => by
      rcases hb with hb | ⟨u, hu, hb⟩
      · exact .inl hb
      · rw [List.eq_of_mem_replicate hu] at hb; cases hb)
theorem y_mkRows {by_ : Nat} {n c : Int} (e : Enc α) (Er : TypeId) (hT : Sl P T Ev 1 by_ (.slice none 0 0)) (H : St X w0 w L) (hx : ev t x = .int .i64 n) (hy : ev t y = .int .i64 c) (h0 : 0 ≤ n) (h1 : n ≤ c)
    (hb : (by_ : Int) * c ≤ 281474976710656) (h63 : c ≤ 9223372036854775807)
    (h : ∀ v us w', St X w0 w' (L ++ [.rows e Er Ev v us (List.replicate n.toNat [])]) → R v w') : Yd P ρ N ⟨d, .makeSlice T x y, ty, ps, af, g⟩ t w R :=
  y_make (e := Enc.slc) (z0 := hz) hT rfl H hx hy h0 h1 hb h63 fun v w' H' => by
    have H2 := H'.mkRows (Ev := Ev) (v := v) (n := n.toNat) e Er L.length (by simp)
    rw [List.set_append_right _ _ (Nat.le_refl _), Nat.sub_self] at H2
    exact h v _ w' H2
/-- What is appended: one row of the call's own. -/
theorem y_appRow {by_ : Nat} {zz : Value} {u : Value} {p : Option Addr} {n c : Nat} {l : List α} {F : Nat → Prop} (hT : Sl P T Ev 1 by_ zz) (H : St X w0 w L) (q q2 : Nat) (hq : L[q]? = some (.rows e Er Ev v us ls)) (hs : L[q2]? = some (.own e Er (.slice p n c) l)) (hne : (q == q2) = false)
    (hu : Rd (.of Enc.slc) w F u [(p, n, c)]) (hx : ev t x = v) (hy : ev t y = u) (hb : (ls.length + 1) * by_ ≤ 140737488355328) (h63 : ls.length + 1 ≤ maxLen)
    (h : ∀ v' us' w', St X w0 w' ((L.set q (.rows e Er Ev v' us' (ls ++ [l]))).set q2 .nul) → R v' w') : Yd P ρ N ⟨d, .call ⟨.builtin .append, #[x, y], #[T, T]⟩, ty, ps, af, g⟩ t w R := by
  have hi := H.get q hq
  have hl := H.get q2 hs
  have hap := H.apart q q2 (by simpa using hne) hq hs
  obtain ⟨v', w', h1, h2, h3, h4⟩ := run_app (ty := ty) hT hi.1 hu (by rw [hi.2.1]; exact hb) (by rw [hi.2.1]; exact h63)
  have hbd : ∀ u ∈ us, ∀ b, (sv u).ownBlock = some b → b < w.heap.size := fun u hu b hb => (Rs.rows e Er Ev v us ls).bd w hi b (.inr ⟨u, hu, hb⟩)
  have hbl : ∀ b, (sv (p, n, c)).ownBlock = some b → b < w.heap.size := fun b hb => (Rs.own e Er (.slice p n c) l).bd w hl b hb
  have hfr : ∀ b, v'.ownBlock = some b → v.ownBlock = some b ∨ w.heap.size ≤ b := h4
  refine y_val (v := v') (w' := w') ?_ (h v' (us ++ [(p, n, c)]) w' (H.absorb q q2 hq hs hne (h3.mono fun i _ hx => .inl hx) ⟨h2, by simp [hi.2.1], ?_, ?_, ?_⟩ ?_))
  · simp [execOp, resolve, invoke, builtin, hx, hy, h1]
  · intro i u' l' hu' hl'
    by_cases hlt : i < us.length
    · rw [List.getElem?_append_left hlt] at hu'
      rw [List.getElem?_append_left (by rw [← hi.2.1]; exact hlt)] at hl'
      exact Rs.keep (hi.2.2.1 i u' l' hu' hl') h3 (fun b hb hx => hi.2.2.2.1 u' (List.mem_of_getElem? hu') b hb hx)
    · have hi2 : i < us.length + 1 := by have := (List.getElem?_eq_some_iff.1 hu').1; simpa using this
      have : i = us.length := by omega
      subst this
      rw [List.getElem?_append_right (Nat.le_refl _), Nat.sub_self] at hu'
      rw [List.getElem?_append_right (by rw [hi.2.1]; exact Nat.le_refl _), hi.2.1, Nat.sub_self] at hl'
      simp at hu' hl'
      subst hu'; subst hl'
      exact Rs.keep hl h3 (fun b hb hx => hap b (.inl hx) hb)
  · intro u' hu' b hb hv'
    rcases hfr b hv' with h5 | h5
    · rcases List.mem_append.1 hu' with h6 | h6
      · exact hi.2.2.2.1 u' h6 b hb h5
      · rw [List.mem_singleton.1 h6] at hb
        exact hap b (.inl h5) hb
    · rcases List.mem_append.1 hu' with h6 | h6
      · have := hbd u' h6 b hb; omega
      · rw [List.mem_singleton.1 h6] at hb
        have := hbl b hb; omega
  · refine List.pairwise_append.2 ⟨hi.2.2.2.2, List.pairwise_singleton _ _, fun a ha b hb k h5 h6 => ?_⟩
    rw [List.mem_singleton.1 hb] at h6
    exact hap k (.inr ⟨a, ha, h5⟩) h6
  · intro b hb
    rcases hb with hb | ⟨u', hu', hb⟩
    · rcases hfr b hb with h5 | h5
      · exact .inl (.inl h5)
      · exact .inr (.inr h5)
    · rcases List.mem_append.1 hu' with h6 | h6
      · exact .inl (.inr ⟨u', h6, hb⟩)
      · rw [List.mem_singleton.1 h6] at hb
        exact .inr (.inl hb)
/-- A row is stored. -/
theorem y_stRow {p : Option Addr} {n c : Nat} {l : List α} {i : Int} (hT : Sz P T 1) (H : St X w0 w L) (q q2 : Nat) (hq : L[q]? = some (.rows e Er Ev v us ls)) (hs : L[q2]? = some (.own e Er (.slice p n c) l)) (hne : (q == q2) = false) (h0 : 0 ≤ i) (h1 : i < ls.length)
    (hx : ev t x = .pointer (adr v (i.toNat * 1))) (hy : ev t y = .slice p n c) (h : ∀ us' w', St X w0 w' ((L.set q (.rows e Er Ev v us' (ls.set i.toNat l))).set q2 .nul) → R undef w') : Yd P ρ N ⟨d, .store T x y, ty, ps, af, g⟩ t w R := by
  have hi := H.get q hq
  have hl := H.get q2 hs
  have hap := H.apart q q2 (by simpa using hne) hq hs
  obtain ⟨e1, e2, e3⟩ := rows_at hi h0 h1
  obtain ⟨pp, old, q1, q3, q4, q5, q6⟩ := own_store (j := 0) (a' := ((p, n, c) : Sv)) (u := .slice p n c) hi.1 e1 Nat.zero_lt_one rfl
  have q1' : adr v (i.toNat * 1) = some pp := q1
  rw [q1'] at hx
  have hsub : ∀ k u', (us.set i.toNat (p, n, c))[k]? = some u' → (u' = (p, n, c) ∧ k = i.toNat) ∨ (us[k]? = some u' ∧ k ≠ i.toNat) := by
    intro k u' hk
    by_cases hki : i.toNat = k
    · subst hki
      rw [List.getElem?_set_self (List.getElem?_eq_some_iff.1 e1).1] at hk
      exact .inl ⟨by cases hk; rfl, rfl⟩
    · rw [List.getElem?_set_ne hki] at hk
      exact .inr ⟨hk, fun e => hki e.symm⟩
  refine y_store hT hx (by rw [hy]; rfl) rfl q3 q4 (h (us.set i.toNat (p, n, c)) _ (H.absorb q q2 hq hs hne (.set _ _ _ (.inl q6)) ⟨q5, by simp [hi.2.1], ?_, ?_, ?_⟩ ?_))
  · intro k u' l' hu' hl'
    rcases hsub k u' hu' with ⟨rfl, rfl⟩ | ⟨h5, h6⟩
    · rw [List.getElem?_set_self (List.getElem?_eq_some_iff.1 e2).1] at hl'
      cases hl'
      exact Rs.keep hl (.set (X := fun b => b = pp.block) w pp _ rfl) (fun b hb hx' => hap b (.inl (hx' ▸ q6)) hb)
    · rw [List.getElem?_set_ne (fun e => h6 e.symm)] at hl'
      exact Rs.keep (hi.2.2.1 k u' l' h5 hl') (.set (X := fun b => b = pp.block) w pp _ rfl) (fun b hb hx' => hi.2.2.2.1 u' (List.mem_of_getElem? h5) b hb (hx' ▸ q6))
  · intro u' hu' b hb hv'
    obtain ⟨k, hk⟩ := List.mem_iff_getElem?.1 hu'
    rcases hsub k u' hk with ⟨rfl, _⟩ | ⟨h5, _⟩
    · exact hap b (.inl hv') hb
    · exact hi.2.2.2.1 u' (List.mem_of_getElem? h5) b hb hv'
  · rw [List.pairwise_iff_getElem]
    intro a b ha hb hab k h5 h6
    rcases hsub a _ (List.getElem?_eq_getElem ha) with ⟨e5, e6⟩ | ⟨e5, e6⟩ <;> rcases hsub b _ (List.getElem?_eq_getElem hb) with ⟨e7, e8⟩ | ⟨e7, e8⟩
    · omega
    · rw [e5] at h5; exact hap k (.inr ⟨_, List.mem_of_getElem? e7, h6⟩) h5
    · rw [e7] at h6; exact hap k (.inr ⟨_, List.mem_of_getElem? e5, h5⟩) h6
    · obtain ⟨g1, g2⟩ := List.getElem?_eq_some_iff.1 e5
      obtain ⟨g3, g4⟩ := List.getElem?_eq_some_iff.1 e7
      exact (List.pairwise_iff_getElem.1 hi.2.2.2.2) a b g1 g3 hab k (by rw [g2]; exact h5) (by rw [g4]; exact h6)
  · intro b hb
    rcases hb with hb | ⟨u', hu', hb⟩
    · exact .inl (.inl hb)
    · obtain ⟨k, hk⟩ := List.mem_iff_getElem?.1 hu'
      rcases hsub k u' hk with ⟨rfl, _⟩ | ⟨h5, _⟩
      · exact .inr (.inl hb)
      · exact .inl (.inr ⟨u', List.mem_of_getElem? h5, hb⟩)
/-- A number in a row is stored. -/
theorem y_stRI {k : IntKind} {ls : List (List Int)} {i j u : Int} (hT : Sz P T 1) (H : St X w0 w L) (q : Nat) (hq : L[q]? = some (.rows (.int k) Er Ev v us ls)) (h0 : 0 ≤ i) (h1 : i < ls.length) (h2 : 0 ≤ j) (h3 : j < (at_ [] ls i).length)
    (hx : ev t x = .pointer (adr (sv (at_ hz us i)) (j.toNat * 1))) (hy : ev t y = .int k u) (h : ∀ w', St X w0 w' (L.set q (.rows (.int k) Er Ev v us (ls.set i.toNat ((at_ [] ls i).set j.toNat u)))) → R undef w') : Yd P ρ N ⟨d, .store T x y, ty, ps, af, g⟩ t w R := by
  have hi := H.get q hq
  obtain ⟨e1, e2, e3⟩ := rows_at hi h0 h1
  obtain ⟨pp, old, q1, q3, q4, q5, q6⟩ := own_store (j := 0) (a' := u) (u := .int k u) e3 (at_get 0 h2 h3) Nat.zero_lt_one rfl
  have q1' : adr (sv (at_ hz us i)) (j.toNat * 1) = some pp := q1
  rw [q1'] at hx
  have q6' : (sv (at_ hz us i)).ownBlock = some pp.block := q6
  refine y_store hT hx (by rw [hy]; rfl) rfl q3 q4 (h _ (H.put q hq (.set _ _ _ (.inr ⟨_, List.mem_of_getElem? e1, q6'⟩)) ⟨?_, by simp [hi.2.1], ?_, hi.2.2.2.1, hi.2.2.2.2⟩ (fun b hb => .inl hb)))
  · exact Rs.keep hi.1 (.set (X := fun b => b = pp.block) w pp _ rfl) (fun b hb hx' => hi.2.2.2.1 _ (List.mem_of_getElem? e1) pp.block q6' (hx' ▸ hb))
  · intro a u' l' hu' hl'
    by_cases ha : i.toNat = a
    · subst ha
      rw [e1] at hu'; cases hu'
      rw [List.getElem?_set_self (List.getElem?_eq_some_iff.1 e2).1] at hl'
      cases hl'
      exact q5
    · rw [List.getElem?_set_ne ha] at hl'
      refine Rs.keep (hi.2.2.1 a u' l' hu' hl') (.set (X := fun b => b = pp.block) w pp _ rfl) (fun b hb hx' => ?_)
      obtain ⟨g1, g2⟩ := List.getElem?_eq_some_iff.1 hu'
      obtain ⟨g3, g4⟩ := List.getElem?_eq_some_iff.1 e1
      have hb' : (sv u').ownBlock = some b := hb
      rw [hx'] at hb'
      rcases Nat.lt_or_gt_of_ne ha with hlt | hlt
      · exact (List.pairwise_iff_getElem.1 hi.2.2.2.2) i.toNat a g3 g1 hlt pp.block (by rw [g4]; exact q6') (by rw [g2]; exact hb')
      · exact (List.pairwise_iff_getElem.1 hi.2.2.2.2) a i.toNat g1 g3 hlt pp.block (by rw [g2]; exact hb') (by rw [g4]; exact q6')
/-- A row's header is loaded. -/
theorem r_ldRow {i : Int} (hT : Sc P T) (hi : (Rs.rows e Er Ev v us ls).inv w) (h0 : 0 ≤ i) (h1 : i < ls.length) (hx : ev t x = .pointer (adr v (i.toNat * 1))) : Rv P ⟨d, .load T x, ty, ps, af, g⟩ t w (sv (at_ hz us i)) :=
  r_ldE (j := 0) hT (own_rd hi.1) (rows_at hi h0 h1).1 rfl hx
/-- A literal of one row, read as a header. -/
theorem lit_hdr {b : Nat} {p : Option Addr} {n c : Nat} (h : (Rs.blk b #[.slice p n c] Ev).inv w) : Rd (.of Enc.slc) w (fun x => x = b) (.slice (some ⟨b, 0, none⟩) 1 1) [(p, n, c)] := by
  refine ⟨_, 1, rfl, Nat.le_refl _, by unfold maxLen; omega, .inr ⟨b, 0, rfl, rfl, fun i x hx => ?_⟩⟩
  match i with
  | 0 =>
    simp at hx
    subst hx
    refine ⟨_, rfl, fun j u hj => ?_⟩
    match j with
    | 0 =>
      have : u = .slice p n c := by simpa [Enc.slc, sv] using hj.symm
      subst this
      exact blk_cell h rfl
    | j + 1 => simp [Enc.slc] at hj
  | i + 1 => simp at hx
end
end Go.Proofs.Ythfhhnlnlcbckaa.Gw
