/- The card of the law that what a desk encodes is read back from what it tells: a part of its proof. The conditions are those of the statement. -/
import Derived.Test.YtkndgkbgbmhjoaaGreatDoorQ21
namespace Go.Proofs.YtkndgkbgbmhjoaaGreatDoor.Gw
open Go Go.RowKit
set_option linter.unusedSimpArgs false
set_option linter.unusedVariables false
set_option linter.unusedSectionVars false
theorem cnt16 : ∀ {l : List Int}, l.length = 16 → ∃ a0 a1 a2 a3 a4 a5 a6 a7 a8 a9 a10 a11 a12 a13 a14 a15, l = [a0, a1, a2, a3, a4, a5, a6, a7, a8, a9, a10, a11, a12, a13, a14, a15]
 | [a0, a1, a2, a3, a4, a5, a6, a7, a8, a9, a10, a11, a12, a13, a14, a15], _ => ⟨a0, a1, a2, a3, a4, a5, a6, a7, a8, a9, a10, a11, a12, a13, a14, a15, rfl⟩
variable [LibO]
theorem fld_at (f : FD) {w : World} (h : (Rs.fld f).inv w) : ∀ x, (x = f.p ∨ x = f.t) → x < w.heap.size := fun x hx => (Rs.fld f).bd w h x (hx.imp id .inl)
theorem gd_same {b : Nat} {n : List Int} {d : DS} {w w' : World} (h : (Rs.gd b d n).inv w) (hc : Ch (fun x => x = b) w w') (hb : w'.heap[b]? = w.heap[b]?) : (Rs.gd b d n).inv w' :=
 (Rs.gd b d n).loc w w' (fun x hx => by
   by_cases e : x = b
   · rw [e]; exact hb
   · exact hc.block x ((Rs.gd b d n).bd w h x hx) e) h
theorem st_gd {b : Nat} {n n' : List Int} {d d' : DS} {w w' : World} (hc : Ch (fun x => x = b) w w') (hi : (Rs.gd b d' n').inv w') (hf : ∀ x, d'.own x → w.heap.size ≤ x ∨ d.own x) : St (Rs.gd b d n).fp w w' [.gd b d' n'] := by
 refine ⟨hc.mono fun x _ e => .inl e, by simpa using hi, ?_, List.pairwise_singleton _ _⟩
 intro r hr x hx
 rw [List.mem_singleton.1 hr] at hx
 rcases hx with e | e | e
 · exact .inr (.inl e)
 · exact .inr (.inr (.inl e))
 · exact (hf x e).imp id fun e => .inr (.inr e)
theorem gd_new1 {b b3 b4 : Nat} {g : Option FD} {cnt : List Int} {w w' : World} (h : (Rs.gd b ⟨none, g⟩ cnt).inv w) (hn : cnt.length = 16) (K : St (fun x => x = b) w w' [.blk b (dsC ⟨some ⟨b4, 1, b3⟩, g⟩ cnt).toArray 89, .blk b3 tabOff.toArray 237, .blk b4 (fcT ⟨b4, 1, b3⟩) 150]) : St (Rs.gd b ⟨none, g⟩ cnt).fp w w' [.gd b ⟨some ⟨b4, 1, b3⟩, g⟩ cnt] := by
 have hlt := (Rs.gd b ⟨none, g⟩ cnt).bd w h
 obtain ⟨h1, h2, h3, h4, h5, h6, h7⟩ := id h
 have hgl : 7 < w.heap.size := Rs.gt.bd w h1 7 rfl
 have hbl : b < w.heap.size := hlt b (.inl rfl)
 have nb3 : w.heap.size ≤ b3 := (K.fp _ (List.getElem_mem (n := 1) (by simp)) b3 rfl).resolve_right fun e => by
   have := K.apart 0 1 (by decide) rfl rfl b rfl
   have e' : b3 = b := e
   exact this e'.symm
 have nb4 : w.heap.size ≤ b4 := (K.fp _ (List.getElem_mem (n := 2) (by simp)) b4 rfl).resolve_right fun e => by
   have := K.apart 0 2 (by decide) rfl rfl b rfl
   have e' : b4 = b := e
   exact this e'.symm
 have e34 : ¬ b4 = b3 := fun e => K.apart 1 2 (by decide) rfl rfl b3 rfl e.symm
 have hg' : Rs.gt.inv w' := Rs.keep h1 K.ch fun x e e' => h2 (e'.symm.trans e)
 have hk : ∀ x, x < w.heap.size → ¬ x = b → w'.heap[x]? = w.heap[x]? := fun x hx e => K.ch.block x hx e
 refine st_gd K.ch ⟨hg', h2, ⟨hn, K.get 0 rfl⟩, ?_, ?_, ?_, ?_⟩ ?_
 · rintro (⟨f, e, hx⟩ | ⟨f, e, hx⟩)
   · cases e; rcases hx with e | e <;> (simp only at e; omega)
   · exact h4 (.inr ⟨f, e, hx⟩)
 · intro f e
   cases e
   exact ⟨rfl, hg', (fun e => by have e' : b4 = 7 := e; omega), .inl ⟨rfl, K.get 2 rfl, e34, false, hg', (fun e => by have e' : b3 = 7 := e; omega), K.get 1 rfl⟩⟩
 · intro f e
   obtain ⟨k1, k2⟩ := h6 f e
   exact ⟨k1, fld_keep k2 hg' fun x hx => hk x (fld_at f k2 x hx) fun e' => h4 (.inr ⟨f, e, e' ▸ hx⟩)⟩
 · intro f f' e e' x hx hy
   cases e
   have := fld_at f' (h6 f' e').2 x hy
   rcases hx with e | e <;> (simp only at e; omega)
 · rintro x (⟨f, e, hx⟩ | ⟨f, e, hx⟩)
   · cases e; left; rcases hx with e | e <;> (simp only at e; omega)
   · exact .inr (.inr ⟨f, e, hx⟩)
theorem gd_new2 {b b3 : Nat} {g : Option FD} {cnt : List Int} {w w' : World} (h : (Rs.gd b ⟨g, none⟩ cnt).inv w) (hn : cnt.length = 16) (K : St (fun x => x = b) w w' [.blk b (dsC ⟨g, some ⟨b3, 2, b3⟩⟩ cnt).toArray 89, .blk b3 fcS 150]) : St (Rs.gd b ⟨g, none⟩ cnt).fp w w' [.gd b ⟨g, some ⟨b3, 2, b3⟩⟩ cnt] := by
 have hlt := (Rs.gd b ⟨g, none⟩ cnt).bd w h
 obtain ⟨h1, h2, h3, h4, h5, h6, h7⟩ := id h
 have hgl : 7 < w.heap.size := Rs.gt.bd w h1 7 rfl
 have hbl : b < w.heap.size := hlt b (.inl rfl)
 have nb3 : w.heap.size ≤ b3 := (K.fp _ (List.getElem_mem (n := 1) (by simp)) b3 rfl).resolve_right fun e => by
   have := K.apart 0 1 (by decide) rfl rfl b rfl
   have e' : b3 = b := e
   exact this e'.symm
 have hg' : Rs.gt.inv w' := Rs.keep h1 K.ch fun x e e' => h2 (e'.symm.trans e)
 have hk : ∀ x, x < w.heap.size → ¬ x = b → w'.heap[x]? = w.heap[x]? := fun x hx e => K.ch.block x hx e
 refine st_gd K.ch ⟨hg', h2, ⟨hn, K.get 0 rfl⟩, ?_, ?_, ?_, ?_⟩ ?_
 · rintro (⟨f, e, hx⟩ | ⟨f, e, hx⟩)
   · exact h4 (.inl ⟨f, e, hx⟩)
   · cases e; rcases hx with e | e <;> (simp only at e; omega)
 · intro f e
   obtain ⟨k1, k2⟩ := h5 f e
   exact ⟨k1, fld_keep k2 hg' fun x hx => hk x (fld_at f k2 x hx) fun e' => h4 (.inl ⟨f, e, e' ▸ hx⟩)⟩
 · intro f e
   cases e
   exact ⟨rfl, hg', (fun e => by have e' : b3 = 7 := e; omega), .inr ⟨rfl, K.get 1 rfl, rfl⟩⟩
 · intro f f' e e' x hx hy
   cases e'
   have := fld_at f (h5 f e).2 x hx
   rcases hy with e | e <;> (simp only at e; omega)
 · rintro x (⟨f, e, hx⟩ | ⟨f, e, hx⟩)
   · exact .inr (.inl ⟨f, e, hx⟩)
   · cases e; left; rcases hx with e | e <;> (simp only at e; omega)
set_option maxRecDepth 100000 in
/-- A drawer is asked for its field. -/
theorem of_call {b : Nat} {n : List Int} {d : DS} {i : Int} {w : World} (hi : i = 1 ∨ i = 2) (h : (Rs.gd b d n).inv w) : Calls Tryz.prog 71 #[.pointer (some ⟨b, 0 + i.toNat * 5, none⟩), .int .i64 i] w fun e w' => ∃ f d', e = .returned (.pointer (some ⟨f.p, 0, none⟩)) ∧ d'.has f ∧ St (Rs.gd b d n).fp w w' [.gd b d' n] := by
 obtain ⟨f1, f2⟩ := d
 obtain ⟨hn, hb⟩ := id h.2.2.1
 obtain ⟨a0, a1, a2, a3, a4, a5, a6, a7, a8, a9, a10, a11, a12, a13, a14, a15, rfl⟩ := cnt16 hn
 rcases hi with rfl | rfl
 · cases f1 with
   | none =>
     cases f2 with
     | none =>
       refine (of1_new hb).mono ?_
       rintro e w' ⟨b3, b4, rfl, K⟩
       exact ⟨⟨b4, 1, b3⟩, ⟨some ⟨b4, 1, b3⟩, none⟩, rfl, .inl rfl, gd_new1 (cnt := [a0, a1, a2, a3, a4, a5, a6, a7, a8, a9, a10, a11, a12, a13, a14, a15]) h rfl K⟩
     | some g =>
       refine (of1_new hb).mono ?_
       rintro e w' ⟨b3, b4, rfl, K⟩
       exact ⟨⟨b4, 1, b3⟩, ⟨some ⟨b4, 1, b3⟩, some g⟩, rfl, .inl rfl, gd_new1 (cnt := [a0, a1, a2, a3, a4, a5, a6, a7, a8, a9, a10, a11, a12, a13, a14, a15]) h rfl K⟩
   | some f =>
     cases f2 with
     | none =>
       refine (of1_old hb).mono ?_
       rintro e w' ⟨rfl, K⟩
       exact ⟨f, _, rfl, .inl rfl, st_gd K.ch (gd_same h K.ch ((K.get 0 rfl).trans hb.symm)) fun x e => .inr e⟩
     | some g =>
       refine (of1_old hb).mono ?_
       rintro e w' ⟨rfl, K⟩
       exact ⟨f, _, rfl, .inl rfl, st_gd K.ch (gd_same h K.ch ((K.get 0 rfl).trans hb.symm)) fun x e => .inr e⟩
 · cases f2 with
   | none =>
     cases f1 with
     | none =>
       refine (of2_new hb).mono ?_
       rintro e w' ⟨b3, rfl, K⟩
       exact ⟨⟨b3, 2, b3⟩, ⟨none, some ⟨b3, 2, b3⟩⟩, rfl, .inr rfl, gd_new2 (cnt := [a0, a1, a2, a3, a4, a5, a6, a7, a8, a9, a10, a11, a12, a13, a14, a15]) h rfl K⟩
     | some g =>
       refine (of2_new hb).mono ?_
       rintro e w' ⟨b3, rfl, K⟩
       exact ⟨⟨b3, 2, b3⟩, ⟨some g, some ⟨b3, 2, b3⟩⟩, rfl, .inr rfl, gd_new2 (cnt := [a0, a1, a2, a3, a4, a5, a6, a7, a8, a9, a10, a11, a12, a13, a14, a15]) h rfl K⟩
   | some f =>
     cases f1 with
     | none =>
       refine (of2_old hb).mono ?_
       rintro e w' ⟨rfl, K⟩
       exact ⟨f, _, rfl, .inr rfl, st_gd K.ch (gd_same h K.ch ((K.get 0 rfl).trans hb.symm)) fun x e => .inr e⟩
     | some g =>
       refine (of2_old hb).mono ?_
       rintro e w' ⟨rfl, K⟩
       exact ⟨f, _, rfl, .inr rfl, st_gd K.ch (gd_same h K.ch ((K.get 0 rfl).trans hb.symm)) fun x e => .inr e⟩
section
variable {ρ : Option Nat} {N : Nat} {t : Fr} {w w0 : World} {X : Nat → Prop} {L : List Rs} {R : Value → World → Prop} {dd : Option Nat} {ty : TypeId} {ps : String} {af : Array Edge} {g : Option (Nat × Bool)} {x y : Operand} {ats : Array TypeId} {b : Nat} {d : DS} {n : List Int}
theorem y_of {i : Int} (H : St X w0 w L) (q : Nat) (hq : L[q]? = some (.gd b d n)) (hf : En Tryz.prog 71) (hx : ev t x = .pointer (some ⟨b, 0 + i.toNat * 5, none⟩)) (hy : ev t y = .int .i64 i) (hi : i = 1 ∨ i = 2)
   (h : ∀ (f : FD) (d' : DS) w', d'.has f → St X w0 w' (L.set q (.gd b d' n)) → R (.pointer (some ⟨f.p, 0, none⟩)) w') : Yd Tryz.prog ρ N ⟨dd, .call ⟨.value (.func 71), #[x, y], ats⟩, ty, ps, af, g⟩ t w R := by
 refine y_callL hf (vs := [.pointer (some ⟨b, 0 + i.toNat * 5, none⟩), .int .i64 i]) (by simp [hx, hy]) ((of_call hi (H.get q hq)).mono ?_)
 rintro _ w' ⟨f, d', rfl, hd, K⟩
 have := H.appX q hq K
 rw [List.append_nil] at this
 exact ⟨_, rfl, h f d' w' hd this⟩
theorem dsC_len (d : DS) : (dwC none ++ dwC d.f1 ++ dwC d.f2 ++ dwC none).length = 20 := by
 have h : ∀ o, (dwC o).length = 5 := fun o => by cases o <;> rfl
 simp [h]
theorem dsC_at {d : DS} {l : List Int} {k : Nat} {v : Int} (h : l[k]? = some v) : (dsC d l).toArray[20 + k]? = some (.int .i64 v) := by
 rw [List.getElem?_toArray, dsC, List.getElem?_append_right (by rw [dsC_len]; omega), dsC_len, Nat.add_sub_cancel_left, List.getElem?_map, h]; rfl
theorem dsC_set {d : DS} {l : List Int} {k : Nat} {v : Int} : (dsC d l).toArray.setIfInBounds (20 + k) (.int .i64 v) = (dsC d (l.set k v)).toArray := by
 rw [List.setIfInBounds_toArray, dsC, List.set_append_right _ _ (by rw [dsC_len]; omega), dsC_len, Nat.add_sub_cancel_left]
 congr 1
 rw [dsC, List.map_set]
theorem add64_run {P : Program} (v : Int) (w : World) : (Op.intArith .add .i64 v 1).run P w = .ok (.int .i64 (IntKind.i64.wrap (v + 1))) w := by simp [go_sem]
set_option maxRecDepth 100000 in
set_option maxHeartbeats 4000000 in
theorem on_add64 (a : Addr) (v : Int) (w : World) (hc : w.cell? a = some (.int .i64 v)) (hz : w.frozen? a = false) :
   Calls Tryz.prog 74 #[.pointer (some a), .int .i64 1] w fun e w' => e = .returned (.int .i64 (IntKind.i64.wrap (v + 1))) ∧ w' = w.setCell a (.int .i64 (IntKind.i64.wrap (v + 1))) := by
 have hs : (Op.intArith .add .i64 v 1).run Tryz.prog w = .ok (.int .i64 (IntKind.i64.wrap (v + 1))) w := add64_run v w
 generalize IntKind.i64.wrap (v + 1) = s at hs ⊢
 have hadd := run_call_add (P := Tryz.prog) Tryz.func129 (by kernel_rfl) (by kernel_rfl) (by kernel_rfl) .i64 (by kernel_rfl) (y := 1) (s := s) hc hz hs
 go_enter Tryz.func74, (show Tryz.f74.ntmps = _ from rfl)
 go_wp2
 go_ret
 exact ⟨rfl, rfl⟩
set_option maxRecDepth 100000 in
set_option maxHeartbeats 4000000 in
theorem on_load64 (a : Addr) (v : Int) (w : World) (hc : w.cell? a = some (.int .i64 v)) :
   Calls Tryz.prog 92 #[.pointer (some a)] w fun e w' => e = .returned (.int .i64 v) ∧ w' = w := by
 have hl := run_call_load (P := Tryz.prog) Tryz.func153 (by kernel_rfl) (by kernel_rfl) (by kernel_rfl) .i64 (by kernel_rfl) hc
 go_enter Tryz.func92, (show Tryz.f92.ntmps = _ from rfl)
 go_wp2
 go_ret
 exact ⟨rfl, rfl⟩
def cix (i j : Int) : Int := 4 * i + j
theorem y_asked {i j : Int} (H : St X w0 w L) (q : Nat) (hq : L[q]? = some (.gd b d n)) (hf : En Tryz.prog 74) (hx : ev t x = .pointer (some ⟨b, 20 + i.toNat * 4 + j.toNat * 1, none⟩)) (hy : ev t y = .int .i64 1) (hi : 0 ≤ i) (hi2 : i < 4) (hj : 0 ≤ j) (hj2 : j < 4)
   (h : ∀ w', St X w0 w' (L.set q (.gd b d (n.set (cix i j).toNat (IntKind.i64.wrap (at_ 0 n (cix i j) + 1))))) → R (.int .i64 (IntKind.i64.wrap (at_ 0 n (cix i j) + 1))) w') : Yd Tryz.prog ρ N ⟨dd, .call ⟨.value (.func 74), #[x, y], ats⟩, ty, ps, af, g⟩ t w R := by
 have hg := H.get q hq
 obtain ⟨h1, h2, ⟨h3, h3'⟩, h4, h5, h6, h7⟩ := id hg
 have ek : 20 + i.toNat * 4 + j.toNat * 1 = 20 + (cix i j).toNat := by unfold cix; omega
 have hv : n[(cix i j).toNat]? = some (at_ 0 n (cix i j)) := at_get 0 (by unfold cix; omega) (by rw [h3]; unfold cix; omega)
 rw [ek] at hx
 refine y_callL hf (vs := [.pointer (some ⟨b, 20 + (cix i j).toNat, none⟩), .int .i64 1]) (by simp [hx, hy]) ((on_add64 ⟨b, 20 + (cix i j).toNat, none⟩ _ w (blk_cell h3' (dsC_at hv)) (blk_frozen h3')).mono ?_)
 rintro _ w' ⟨rfl, rfl⟩
 have hb := blk_set (o := 20 + (cix i j).toNat) (.int .i64 (IntKind.i64.wrap (at_ 0 n (cix i j) + 1))) h3'
 rw [dsC_set] at hb
 have hc : Ch (fun x => x = b) w (w.setCell ⟨b, 20 + (cix i j).toNat, none⟩ (.int .i64 (IntKind.i64.wrap (at_ 0 n (cix i j) + 1)))) := .set _ _ _ rfl
 refine ⟨_, rfl, h _ (H.put q hq (hc.mono fun x _ e => .inl e) ⟨Rs.keep h1 hc fun x e e' => h2 (e'.symm.trans e), h2, ⟨by simpa using h3, hb⟩, h4, fun f hf => ⟨(h5 f hf).1, ?_⟩, fun f hf => ⟨(h6 f hf).1, ?_⟩, h7⟩ fun x e => .inl e)⟩
 · exact fld_keep (h5 f hf).2 (Rs.keep h1 hc fun x e e' => h2 (e'.symm.trans e)) fun x hx => hc.block x (fld_at f (h5 f hf).2 x hx) fun e => h4 (.inl ⟨f, hf, e ▸ hx⟩)
 · exact fld_keep (h6 f hf).2 (Rs.keep h1 hc fun x e e' => h2 (e'.symm.trans e)) fun x hx => hc.block x (fld_at f (h6 f hf).2 x hx) fun e => h4 (.inr ⟨f, hf, e ▸ hx⟩)
theorem y_told {i j : Int} (H : St X w0 w L) (q : Nat) (hq : L[q]? = some (.gd b d n)) (hf : En Tryz.prog 92) (hx : ev t x = .pointer (some ⟨b, 20 + i.toNat * 4 + j.toNat * 1, none⟩)) (hi : 0 ≤ i) (hi2 : i < 4) (hj : 0 ≤ j) (hj2 : j < 4)
   (h : ∀ w', St X w0 w' L → R (.int .i64 (at_ 0 n (cix i j))) w') : Yd Tryz.prog ρ N ⟨dd, .call ⟨.value (.func 92), #[x], ats⟩, ty, ps, af, g⟩ t w R := by
 obtain ⟨h1, h2, ⟨h3, h3'⟩, h4, h5, h6, h7⟩ := id (H.get q hq)
 have ek : 20 + i.toNat * 4 + j.toNat * 1 = 20 + (cix i j).toNat := by unfold cix; omega
 have hv : n[(cix i j).toNat]? = some (at_ 0 n (cix i j)) := at_get 0 (by unfold cix; omega) (by rw [h3]; unfold cix; omega)
 rw [ek] at hx
 refine y_callL hf (vs := [.pointer (some ⟨b, 20 + (cix i j).toNat, none⟩)]) (by simp [hx]) ((on_load64 ⟨b, 20 + (cix i j).toNat, none⟩ _ w (blk_cell h3' (dsC_at hv))).mono ?_)
 rintro _ w' ⟨rfl, rfl⟩
 exact ⟨_, rfl, h _ H⟩
end
end Go.Proofs.YtkndgkbgbmhjoaaGreatDoor.Gw
