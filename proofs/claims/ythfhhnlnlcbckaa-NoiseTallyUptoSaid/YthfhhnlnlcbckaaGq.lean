/- Calls walked in place, joins, equality of structs, function values in rows. -/
import Derived.Test.YthfhhnlnlcbckaaGp
import Derived.Laws.StructEq
namespace Go.Proofs.Ythfhhnlnlcbckaa.Gw
open Go Go.RowKit
set_option linter.unusedSimpArgs false
set_option linter.unusedVariables false
section
variable {P : Program} {ρ : Option Nat} {N : Nat} {Q : Exit → Fr → World → Prop} {t : Fr} {w w0 : World} {X : Nat → Prop} {L M : List Rs} {R : Value → World → Prop} {d : Option Nat} {ty T T' : TypeId} {ps : String} {af : Array Edge} {g : Option (Nat × Bool)} {x y : Operand} {α : Type}
theorem calls_in {f : FuncId} {n : Nat} {fn : Func} {c : Code} {vs : List Value} (h1 : P.funcs[f]? = some fn) (h2 : fn.body = some c) (h3 : fn.ntmps = n) (h4 : vs.length ≤ n) (hs : Nat.ble n 1000000 = true)
    (h : Wc P none n (Fini P n fn R) c (t0 vs) w) : Calls P f vs.toArray w fun e w' => ∃ v, e = .returned v ∧ R v w' :=
  calls_of_wc h1 h2 h3 h4 (wc_mono h fun _ _ _ ⟨a, v, b⟩ => ⟨a, v, tk_mono (fun _ ⟨c, d⟩ => ⟨c, v, rfl, d⟩) _ _ b⟩) hs
/-- A call whose body is walked in place. -/
theorem y_in {f : FuncId} {fn : Func} {c : Code} {xs : Array Operand} {as : Array TypeId} (n : Nat) (vs : List Value) (hf : En P f) (h1 : P.funcs[f]? = some fn) (h2 : fn.body = some c) (h3 : fn.ntmps = n) (h4 : Nat.ble vs.length n = true) (hv : xs.toList.map (ev t) = vs)
    (h : Wc P none n (Fini P n fn R) c (t0 vs) w) (hs : Nat.ble n 1000000 = true := by rfl) : Yd P ρ N ⟨d, .call ⟨.value (.func f), xs, as⟩, ty, ps, af, g⟩ t w R :=
  y_callL hf hv (calls_in h1 h2 h3 (Nat.le_of_ble_eq_true h4) hs h)
theorem y_inv {f : FuncId} {fn : Func} {c : Code} {xs : Array Operand} {as : Array TypeId} {cap : Array Value} (n : Nat) (vs : List Value) (hx : ev t x = .func (.func f) #[] cap) (hf : En P f) (h1 : P.funcs[f]? = some fn) (h2 : fn.body = some c) (h3 : fn.ntmps = n) (h4 : Nat.ble vs.length n = true) (hv : xs.toList.map (ev t) ++ cap.toList = vs)
    (h : Wc P none n (Fini P n fn R) c (t0 vs) w) (hs : Nat.ble n 1000000 = true := by rfl) : Yd P ρ N ⟨d, .call ⟨.value x, xs, as⟩, ty, ps, af, g⟩ t w R :=
  y_callvL hx hf hv (calls_in h1 h2 h3 (Nat.le_of_ble_eq_true h4) hs h)
/-- Where ways come together. -/
theorem wc_seqJ {c c' : Code} (I : Fr → World → Prop) (h1 : Wc P ρ N (Thn I Q) c t w) (h2 : ∀ t w, I t w → Wc P ρ N Q c' t w) : Wc P ρ N Q (.seq c c') t w :=
  wc_seq (wc_mono h1 fun e t w h => by cases e <;> first | exact h | exact h2 t w h)
theorem y_J {o : Oper} (J : Value → World → Prop) (h1 : Yd P ρ N o t w J) (h2 : ∀ v w', J v w' → R v w') : Yd P ρ N o t w R := h1.mono h2

/-- A loop, round by round. -/
def Wu (P : Program) (ρ : Option Nat) (N : Nat) (Q : Exit → Fr → World → Prop) (c : Code) (t : Fr) (w : World) : Prop :=
  ∀ a, Fm N t a → ∀ b kk cs, b.roundOf = ρ → ∃ e a' w', (∃ t', Fm N t' a' ∧ NP e ∧ Q e t' w') ∧ ArrivesIn (Machine.fenced P (Fw ρ)) P (lone (b.atR a (.code c :: .inLoop c :: kk)) cs w) b kk cs e a' w'
theorem wc_unroll {c : Code} (h : Wu P ρ N Q c t w) : Wc P ρ N Q (.loop c) t w := by
  intro a ha b kk cs hro hb hr
  obtain ⟨e, a', w', hq, harr⟩ := h a ha b kk cs hro
  exact ⟨e, a', w', hq, .of_steps (.one (fenced_calm hb hr rfl) stepR_loop) harr⟩
theorem wu {c : Code} (h : Wc P ρ N (Thn (fun t w => Wu P ρ N Q c t w) Q) c t w) : Wu P ρ N Q c t w := by
  intro a ha b kk cs hro
  have hb : (Fw ρ).fn b.fn := trivial
  have hr : (Fw ρ).room (cs.length + 1 + 0) := fw_room _ _
  obtain ⟨e, a₁, w₁, ⟨t₁, f₁, np, hq⟩, harr⟩ := h a ha b (.inLoop c :: kk) cs hro hb hr
  cases e with
  | normal =>
    obtain ⟨e₂, a₂, w₂, hq₂, harr₂⟩ := hq a₁ f₁ b kk cs hro
    exact ⟨e₂, a₂, w₂, hq₂, .of_steps (StepsIn.trans harr (.one (fenced_calm hb hr rfl) stepR_inLoop)) harr₂⟩
  | exit id => exact ⟨_, a₁, w₁, ⟨t₁, f₁, np, hq⟩, .pass (x := .inLoop c) rfl (fun _ _ => .inl (by simp)) harr⟩
  | goto l => exact ⟨_, a₁, w₁, ⟨t₁, f₁, np, hq⟩, .pass (x := .inLoop c) rfl (fun _ _ => .inl (by simp)) harr⟩
  | ret => exact ⟨_, a₁, w₁, ⟨t₁, f₁, np, hq⟩, .pass (x := .inLoop c) rfl (fun _ _ => .inl (by simp)) harr⟩
  | panic ch => exact ⟨_, a₁, w₁, ⟨t₁, f₁, np, hq⟩, .pass (x := .inLoop c) rfl (fun _ _ => .inl (by simp)) harr⟩
  | outgrown => exact ⟨_, a₁, w₁, ⟨t₁, f₁, np, hq⟩, .pass (x := .inLoop c) rfl (fun _ _ => .inl (by simp)) harr⟩
/-- The same, said otherwise. -/
theorem rv_eq {o : Oper} {v v' : Value} (h : Rv P o t w v) (e : v = v') : Rv P o t w v' := e ▸ h
/-- A row of whatever, as a block. -/
def LitB (t : Fr) (sz : Nat) : Nat → List (Nat × Operand) → List Value → Prop
  | _, [], [] => True
  | i, (j, x) :: ps, cs => j = i ∧ (ev t x).cells = (cs.take sz).toArray ∧ (cs.take sz).length = sz ∧ LitB t sz (i + 1) ps (cs.drop sz)
  | _, _, _ => False
theorem fill_litB (t : Fr) (sz : Nat) : ∀ (ps : List (Nat × Operand)) (l : List Value) (i : Nat) (cs : Array Value), LitB t sz i ps l → cs.size = i * sz + l.length →
    Instr.fill (fun i => some (i * sz, sz)) cs (ps.map fun p => (p.1, ev t p.2)) = some ((cs.toList.take (i * sz) ++ l).toArray)
  | [], [], i, cs, _, hs => by
    simp only [List.map_nil, Instr.fill, Option.some.injEq]
    apply Array.ext'
    simp only [List.length_nil, Nat.add_zero] at hs
    simp [List.take_of_length_le (by simp; omega : cs.toList.length ≤ i * sz)]
  | [], _ :: _, _, _, h, _ => h.elim
  | (j, x) :: ps, l, i, cs, ⟨h1, h2, h4, h3⟩, hs => by
    subst h1
    have hz : (ev t x).cells.size = sz := by rw [h2]; simpa using h4
    have hl : sz ≤ l.length := by rw [List.length_take] at h4; omega
    simp only [List.map_cons, Instr.fill]
    rw [if_neg (by rw [hz]; intro hh; rcases (by simpa using hh : _) with hh; omega)]
    have key := setRun (j * sz) (l.take sz) 0 cs (by rw [h4]; omega)
    have e1 : (Array.foldl (fun cs x => match x with | (c, j_1) => cs.setIfInBounds (j * sz + j_1) c) cs (ev t x).cells.zipIdx) = (cs.toList.take (j * sz) ++ l.take sz ++ cs.toList.drop (j * sz + sz)).toArray := by
      apply Array.ext'
      rw [h2]
      have : (l.take sz).toArray.zipIdx = ((l.take sz).zipIdx).toArray := by simp
      rw [this, List.foldl_toArray]
      simpa [h4] using key
    have hj : (j + 1) * sz = j * sz + sz := by rw [Nat.add_mul]; omega
    rw [e1, fill_litB t sz ps (l.drop sz) (j + 1) _ h3 (by simp; rw [hj]; omega)]
    congr 1
    rw [hj]
    apply Array.ext'
    rw [List.take_append_of_le_length (by simp; omega), List.take_of_length_le (by simp; omega)]
    simp
theorem y_bsB {E by_ n sz : Nat} {zz : Value} {parts : Array (Nat × Operand)} {l : List Value} (hT : Sl P T E sz by_ zz) (H : St X w0 w L) (hn : l.length = n * sz) (hle : n * sz ≤ 16777216)
    (hf : LitB t sz 0 parts.toList l) (hn0 : 0 < n)
    (h : ∀ b w', St X w0 w' (L ++ [.blk b l.toArray E]) → R (.slice (some ⟨b, 0, none⟩) n n) w') : Yd P ρ N ⟨d, .buildSlice T n parts, ty, ps, af, g⟩ t w R := by
  obtain ⟨t1, i, t2, t3, t4, t5, t6, t7⟩ := hT
  have hne : ¬ (n * sz = 0) := by
    intro h0; rcases Nat.mul_eq_zero.1 h0 with h0 | h0 <;> omega
  have hf' := fill_litB t sz parts.toList l 0 ((Array.range (n * sz)).map (zz.cells[· % zz.cells.size]!)) hf (by simp [hn])
  simp only [Nat.zero_mul, List.take_zero, List.nil_append] at hf'
  have hrun : (Instr.buildSlice T n (parts.map fun (i, x) => (i, ev t x))).run P w = .ok (.slice (some ⟨w.heap.size, 0, none⟩) n n) (w.alloc (.cells l.toArray E)) := by
    unfold Instr.buildSlice
    have hle' : ¬ (16777216 < n * sz) := by omega
    simp only [Sem.run_bind, run_underlying t1, Result.andThen_ok]
    simp [sizeOf, typeInfo, t2, t3, hle', hne, zeroValue, t5]
    have hf'' : Instr.fill (fun i => some (i * sz, sz)) ((Array.range (n * sz)).map (zz.cells[· % zz.cells.size]!)) (parts.map fun (i, x) => (i, ev t x)).toList = some l.toArray := by
      rw [← hf']; congr 1; simp
    simp only [Array.toList_map] at hf''
    unfold Value.cells at hf''
    simp [hf'', newRow, go_sem]
  refine y_val (v := .slice (some ⟨w.heap.size, 0, none⟩) n n) (w' := w.alloc (.cells l.toArray E)) ?_ (h _ _ (H.box _ _))
  simp only [execOp, Sem.run_bind, hrun]; rfl
/-! ### Structs that are compared -/
variable {dd : Nat} {xs ys : Array Value} {f : Field} {fs : List Field} {a b : Value} {r s : Bool}
theorem eqf_last (hn : (f.name == "_") = false) (ha : (part f.type xs f.offset).run P w = .ok a w) (hb : (part f.type ys f.offset).run P w = .ok b w) (he : (Op.equalIn dd f.type a b).run P w = .ok r w) : (Op.eqFields dd xs ys [f]).run P w = .ok r w := by
  have hn' : f.name ≠ "_" := by simpa using hn
  simp only [Op.eqFields, if_pos hn', Sem.run_bind, ha, hb, he, Result.andThen_ok]
  cases r <;> simp
theorem eqf_cons (hn : (f.name == "_") = false) (ha : (part f.type xs f.offset).run P w = .ok a w) (hb : (part f.type ys f.offset).run P w = .ok b w) (he : (Op.equalIn dd f.type a b).run P w = .ok r w) (hr : (Op.eqFields dd xs ys fs).run P w = .ok s w) : (Op.eqFields dd xs ys (f :: fs)).run P w = .ok (r && s) w := by
  have hn' : f.name ≠ "_" := by simpa using hn
  rw [Op.eqFields]
  simp only [if_pos hn', Sem.run_bind, ha, hb, he, Result.andThen_ok]
  cases r
  · simp
  · simpa using hr
theorem eqA_of {t : TypeId} {fs : Array Field} (hu : P.underlying t = some (.struct fs)) (hp : P.stoodInHeld t = false) (h : (Op.eqFields dd xs ys fs.toList).run P w = .ok r w) : (Op.equalIn (dd + 1) t (.agg xs) (.agg ys)).run P w = .ok r w := by
  have hf : P.fieldsOf t = fs := by simp [Program.fieldsOf, hu]
  rw [run_equalIn_struct (P := P) w dd t xs ys (by rw [hf]; exact hu) hp, hf]
  exact h
theorem r_eqlA {xs ys : Array Value} {r : Bool} (hm : P.eqGuardType P.depth T = false) (h : (Op.equalIn 10000 T (.agg xs) (.agg ys)).run P w = .ok r w) (hx : ev t x = .agg xs) (hy : ev t y = .agg ys) :
    Rv P ⟨d, .binOp .eql T x y T', ty, ps, af, g⟩ t w (.bool r) := by
  have h1 : (binOp .eql T (.agg xs) (.agg ys)).run P w = .ok (.bool r) w := by rw [run_eql_struct, h]; rfl
  have h2 := run_eqGuard_agg (P := P) w .eql T x y xs ys hm
  unfold Rv; simp only [execOp, hx, hy, Sem.run_bind, h2, Result.andThen_ok, h1]; rfl
theorem r_neqA {xs ys : Array Value} {r : Bool} (hm : P.eqGuardType P.depth T = false) (h : (Op.equalIn 10000 T (.agg xs) (.agg ys)).run P w = .ok r w) (hx : ev t x = .agg xs) (hy : ev t y = .agg ys) :
    Rv P ⟨d, .binOp .neq T x y T', ty, ps, af, g⟩ t w (.bool (!r)) := by
  have h1 : (binOp .neq T (.agg xs) (.agg ys)).run P w = .ok (.bool (!r)) w := by rw [run_neq_struct, h]; rfl
  have h2 := run_eqGuard_agg (P := P) w .neq T x y xs ys hm
  unfold Rv; simp only [execOp, hx, hy, Sem.run_bind, h2, Result.andThen_ok, h1]; rfl
end
/-! ### Rows of rows that came in; elements as a whole -/
section
variable {P : Program} {ρ : Option Nat} {N : Nat} {t : Fr} {w w0 : World} {X : Nat → Prop} {L : List Rs} {R : Value → World → Prop} {d : Option Nat} {ty T : TypeId} {ps : String} {af : Array Edge} {g : Option (Nat × Bool)} {x y : Operand} {α : Type}
theorem y_ldS0 {κ : Kd α} {l : List (List α)} {v : Value} {i : Int} (hT : Sc P T) (H : St X w0 w L) (h : Rd (.sl κ) w0 (Ol X w0) v l) (h0 : 0 ≤ i) (h1 : i < l.length) (hx : ev t x = .pointer (adr v (i.toNat * 1)))
    (hR : ∀ u, Rd κ w0 (Ol X w0) u (at_ [] l i) → R u w) : Yd P ρ N ⟨d, .load T x, ty, ps, af, g⟩ t w R := by
  obtain ⟨p, c, e1, h3, h4, h5⟩ := h
  have hg := at_get [] h0 h1
  rcases h5 with ⟨h5, _⟩ | ⟨b, o, h5, h6, h7⟩
  · subst h5; simp at h1; omega
  · subst e1; subst h5
    obtain ⟨cs, ⟨u, hk, hu⟩, hr⟩ := h7 _ _ hg
    subst hk
    exact y_val (r_load hT hx (rangeAt_keep (H.ch.block b h6.1 h6.2) hr 0 u rfl)) (hR u hu)
theorem setL_list : ∀ (vs : List Value) (o : Nat) (cs : Array Value), o + vs.length ≤ cs.size → (setL cs o vs).toList = cs.toList.take o ++ vs ++ cs.toList.drop (o + vs.length)
  | [], o, cs, _ => by simp [setL]
  | v :: vs, o, cs, h => by
    simp only [List.length_cons] at h
    rw [setL, setL_list vs (o + 1) _ (by simp; omega)]
    simp only [List.length_cons]
    rw [List.take_set, List.drop_set, if_pos (by omega)]
    rw [List.take_succ_eq_append_getElem (by simp; omega), List.set_append_right _ _ (by simp; omega)]
    have h2 : o - (List.take o cs.toList).length = 0 := by simp; omega
    rw [h2, show o + 1 + vs.length = o + (vs.length + 1) by omega]
    simp
theorem setL_size : ∀ (vs : List Value) (o : Nat) (cs : Array Value), (setL cs o vs).size = cs.size
  | [], _, _ => rfl
  | v :: vs, o, cs => by rw [setL, setL_size vs]; simp
theorem Enc.all_put (e : Enc α) (a' : α) : ∀ (l : List α) (i : Nat), i < l.length → e.all (l.set i a') = (e.all l).take (i * e.sz) ++ e.en a' ++ (e.all l).drop (i * e.sz + e.sz)
  | [], _, h => by simp at h
  | b :: l, 0, _ => by
    simp only [Enc.all, List.set_cons_zero, List.flatMap_cons, Nat.zero_mul, List.take_zero, List.nil_append, Nat.zero_add]
    rw [List.drop_append_of_le_length (by rw [e.len]; exact Nat.le_refl _), List.drop_of_length_le (by rw [e.len]; exact Nat.le_refl _)]; simp
  | b :: l, i + 1, h => by
    have ih := e.all_put a' l i (by simpa using h)
    simp only [Enc.all, List.set_cons_succ, List.flatMap_cons] at ih ⊢
    have h1 : (i + 1) * e.sz = e.sz + i * e.sz := by rw [Nat.add_mul]; omega
    rw [ih, h1, List.take_append, List.drop_append, e.len, List.take_of_length_le (l := e.en b) (by rw [e.len]; omega), List.drop_of_length_le (l := e.en b) (by rw [e.len]; omega)]
    have h2 : e.sz + i * e.sz - e.sz = i * e.sz := by omega
    have h3 : e.sz + i * e.sz + e.sz - e.sz = i * e.sz + e.sz := by omega
    rw [h2, h3]; simp
theorem y_storeA2 {e : Enc α} {E : TypeId} {v : Value} {l : List α} {i : Int} {a' : α} {n : Nat} {as : Array Value} (hT : Sz P T n) (H : St X w0 w L) (q : Nat) (hk : L[q]? = some (.own e E v l)) (h0 : 0 ≤ i) (h1 : i < l.length)
    (hx : ev t x = .pointer (adr v (i.toNat * e.sz))) (hn : e.sz = n) (hy : ev t y = .agg as) (he : as.toList = e.en a')
    (h : ∀ w', St X w0 w' (L.set q (.own e E v (l.set i.toNat a'))) → R undef w') : Yd P ρ N ⟨d, .store T x y, ty, ps, af, g⟩ t w R := by
  subst hn
  have has : as.size = e.sz := by rw [← Array.length_toList, he, e.len]
  have hi : i.toNat < l.length := by omega
  have H1 := H.get q hk
  obtain ⟨k1, k2⟩ := H1
  rcases k2 with ⟨_, h3⟩ | ⟨g, cap, cur, hv, _, hh, h4, h5, h6, h7⟩
  · omega
  · have hlt : i.toNat * e.sz + e.sz ≤ l.length * e.sz := by
      have : (i.toNat + 1) * e.sz ≤ l.length * e.sz := Nat.mul_le_mul_right _ hi
      rw [Nat.add_mul] at this; omega
    have hle : l.length * e.sz ≤ cap * e.sz := Nat.mul_le_mul_right _ h4
    have hblk : (Rs.blk g cur E).inv w := hh
    have hx' : ev t x = .pointer (some ⟨g, i.toNat * e.sz, none⟩) := by rw [hx, hv]; simp [adr]
    have hset := blk_setL as.toList (i.toNat * e.sz) cur w hblk
    refine y_storeA (by rw [has]; exact hT) hx' hy (fun j hj => ⟨?_, blk_frozen hblk⟩) ?_ (h _ (H.put q hk (r' := .own e E v (l.set i.toNat a')) ?_ ?_ (fun _ hb => .inl hb)))
    · rw [blk_cell hblk (Array.getElem?_eq_getElem (by omega))]; rfl
    · rw [← Array.all_toList, he, List.all_eq_true]; exact fun u hu => e.one _ _ hu
    · have := ch_setL (b := g) as.toList (i.toNat * e.sz) w
      exact this.mono fun b _ hb => by show v.ownBlock = some b; rw [hv, hb]; rfl
    · refine ⟨e.all_len _, .inr ⟨g, cap, setL cur (i.toNat * e.sz) as.toList, by rw [List.length_set]; exact hv, Nat.zero_le _, hset, by rw [List.length_set]; exact h4, h5, by rw [setL_size]; exact h6, ?_⟩⟩
      rw [List.length_set, setL_list _ _ _ (by rw [he, e.len]; omega), e.all_put a' l _ hi, ← h7, he, e.len]
      rw [List.take_append, List.take_append, List.take_take, List.drop_take, List.take_drop]
      simp only [List.length_append, List.length_take, Array.length_toList, e.len]
      have m1 : min (l.length * e.sz) (i.toNat * e.sz) = i.toNat * e.sz := by omega
      have m2 : min (i.toNat * e.sz) cur.size = i.toNat * e.sz := by omega
      have m3 : min (i.toNat * e.sz) (l.length * e.sz) = i.toNat * e.sz := by omega
      rw [m1, m2]
      rw [List.take_of_length_le (l := e.en a') (by rw [e.len]; omega)]
      rw [List.take_take, m3]
      congr 2
      rw [List.drop_take]; congr 1; omega
end
/-! ### A guard on what did not come up -/
section
variable {P : Program} {ρ : Option Nat} {N : Nat} {Q : Exit → Fr → World → Prop} {t : Fr} {w : World}
theorem yielded_none {ops : Array Oper} {a : Act} (ha : Fm N t a) {j : Nat} (h : yd ops t j = none) : yielded ops a.tmps j = none := by
  unfold yd at h; unfold yielded
  cases hd : (ops[j]?).bind (·.dst) with
  | none => simp
  | some d =>
    rw [hd] at h
    simp only [Option.bind_some] at h ⊢
    have hg : a.tmps.getD d undef = ev t (.tmp d) := by rw [← ha.eval]; rfl
    rw [Array.getD_eq_getD_getElem?] at hg
    cases hq : a.tmps[d]? with
    | none => rfl
    | some v => rw [hq] at hg; simp only [Option.getD_some] at hg; rw [hg]; revert h; cases ev t (.tmp d) <;> simp
theorem offN_ {ops : Array Oper} {d : Nat} {op : Op} {ty : TypeId} {ps : String} {af : Array Edge} {j : Nat} {b : Bool} {rest : List Oper}
    (hy : yd ops t j = none) (hd : Nat.blt d N = true)
    (h : Wl P ρ N ops Q rest (upd t d undef) w) : Wl P ρ N ops Q (⟨some d, op, ty, ps, af, some (j, b)⟩ :: rest) t w := by
  intro a ha
  refine wpListIn_step fun K hK => ?_
  rw [if_neg (by simp [Region.wanted, yielded_none ha hy])]
  exact ⟨fun _ _ => trivial, hK _ _ (h _ (ha.put (d := some d) hd undef))⟩
theorem wa_offN {ops : Array Oper} {S : World → Prop} {ds : List Nat} {n : Nat} {l l' : Array Bool} {i j : Nat} {o : Oper} {b : Bool} (hi : ops[i]? = some o) (hg : o.guard = some (j, b)) (hy : yd ops t j = none) (hd : ok N o.dst = true)
    (hc : takeB ops ds l l' i = true) (hS : S w) (h : Wa P ρ N ops Q S ds n l' (updO t o.dst undef) w) : Wa P ρ N ops Q S ds (n + 1) l t w := by
  simp only [takeB, Bool.and_eq_true, beq_iff_eq] at hc
  obtain ⟨⟨⟨⟨⟨hnd, h1⟩, h0⟩, h2⟩, h3⟩, h4⟩ := hc
  intro a ha
  refine wpL_take hi h1 hnd (waitB_spec h0) h2 h3 (fun c _ _ h => h.elim fun _ h => (h.2.1 c rfl).elim) (.inr ⟨by simp [Region.wanted, hg, yielded_none ha hy], rfl⟩) hS ?_
  rw [h4]
  exact h _ (ha.put hd undef)
end
/-! ### Effects under a guard, in a region that draws -/
section
variable {P : Program} {ρ : Option Nat} {N : Nat} {Q : Exit → Fr → World → Prop} {t : Fr} {w : World}
theorem wa_oneOn {ops : Array Oper} {S : World → Prop} {ds : List Nat} {n : Nat} {l l' : Array Bool} {i j : Nat} {o : Oper} {b c : Bool} (hi : ops[i]? = some o) (hg : o.guard = some (j, b)) (hy' : yd ops t j = some c) (hcb : c = b) (hd : ok N o.dst = true)
    (hc : ((Region.ready .any ops l == [i]) && (l.setIfInBounds i true == l')) = true)
    (h : Yd P ρ N o t w fun v w' => (i ∉ ds → S w') ∧ Wa P ρ N ops Q S ds n l' (updO t o.dst v) w') : Wa P ρ N ops Q S ds (n + 1) l t w := by
  have hy : yd ops t j = some b := hcb ▸ hy'
  simp only [Bool.and_eq_true, beq_iff_eq] at hc
  obtain ⟨h1, h2⟩ := hc
  intro a ha
  refine ⟨fun h0 => (by rw [h1] at h0; cases h0), fun k hk => ?_⟩
  rw [h1, List.mem_singleton] at hk
  subst hk
  have hw : Region.wanted o (yielded ops a.tmps) = true := by simp [Region.wanted, hg, yielded_eq ha hy]
  unfold wpOpIn
  simp only [hi, hw, if_true]
  refine h a ha _ _ fun v w' ⟨s, r⟩ => ⟨s, ?_⟩
  rw [h2]
  exact r _ (ha.put hd v)
theorem wa_oneVOn {ops : Array Oper} {S : World → Prop} {ds : List Nat} {n : Nat} {l l' : Array Bool} {i j : Nat} {o : Oper} {v : Value} {b c : Bool} (hi : ops[i]? = some o) (hg : o.guard = some (j, b)) (hy' : yd ops t j = some c) (hcb : c = b) (hd : ok N o.dst = true)
    (hc : ((Region.ready .any ops l == [i]) && (l.setIfInBounds i true == l')) = true) (hS : S w) (hr : (execOp (ev t) o).run P w = .ok (.value v) w)
    (h : Wa P ρ N ops Q S ds n l' (updO t o.dst v) w) : Wa P ρ N ops Q S ds (n + 1) l t w := wa_oneOn hi hg hy' hcb hd hc (y_val hr ⟨fun _ => hS, h⟩)
end
section
variable {P : Program} {ρ : Option Nat} {N : Nat} {t : Fr} {w : World} {d : Option Nat} {ty T : TypeId} {ps : String} {af : Array Edge} {g : Option (Nat × Bool)}
theorem r_mkf {fn : Fn} {ys : Array Operand} (us : List Value) (hy : ys.toList.map (ev t) = us) : Rv P ⟨d, .makeFunc fn #[] ys, ty, ps, af, g⟩ t w (.func fn #[] us.toArray) :=
  r_makeFunc (by simp) (by subst hy; apply Array.ext'; simp)
theorem resM {fn : Func} {rs : List ResultVar} {vs : List Value} {v : Value} (hf : fn.results = rs.toArray) (h : RVs P w t rs vs) (hv : resv vs = v) (a : Act) (ha : Fm N t a) : (results fn a.tmps).run P w = .ok v w :=
  hv ▸ resN hf h a ha
end
/-- A function without anything captured, by its number. -/
def Enc.fn : Enc Nat := ⟨1, fun n => [.func (.func n) #[] #[]], fun _ => rfl, fun a v h => by simp at h; subst h; rfl⟩
end Go.Proofs.Ythfhhnlnlcbckaa.Gw
