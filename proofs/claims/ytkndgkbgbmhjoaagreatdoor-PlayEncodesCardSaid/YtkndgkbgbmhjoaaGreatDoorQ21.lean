/- The card of the law that what a desk encodes is read back from what it tells: a part of its proof. The conditions are those of the statement. -/
import Derived.Test.YtkndgkbgbmhjoaaGreatDoorQ3
import Derived.Test.YtkndgkbgbmhjoaaGreatDoorQ20
import Derived.Lib.AppendStr
import Derived.RegionTactic
import Derived.RegionCalls
import Derived.Tactics2
import Derived.Test.YtkndgkbgbmhjoaaGreatDoorProg
import Derived.Lib.OthersKept
import Derived.Shelf.Strings.BuilderK
import Derived.Lib.AppendIntMem
import Derived.Lib.SmallJoins
import Derived.Sort.OwnSorted
import Derived.Laws.BytesArg
import Derived.Test.YtkndgkbgbmhjoaaGreatDoorQ5
import Derived.Test.YtkndgkbgbmhjoaaGreatDoorQ11
namespace Go.Proofs.YtkndgkbgbmhjoaaGreatDoor.Gw
open Go Go.RowKit Go.Shelf
set_option linter.unusedSimpArgs false
set_option linter.unusedVariables false
def sb (s : ByteArray) : List Int := s.data.toList.map fun b => ((b.toNat : Nat) : Int)
theorem sb_cells (s : ByteArray) : Lib.strCells s = (Enc.int .u8).all (sb s) := by
 rw [Lib.strCells_eq, sb, all_int, List.map_map]; rfl
@[simp] theorem sb_len (s : ByteArray) : (sb s).length = s.size := by unfold sb; rw [List.length_map]; rfl
section
variable {P : Program} {ρ : Option Nat} {N : Nat} {t : Fr} {w w0 : World} {X : Nat → Prop} {L : List Rs} {R : Value → World → Prop} {d : Option Nat} {ty T U E : TypeId} {ps : String} {af : Array Edge} {g : Option (Nat × Bool)} {x y : Operand}
theorem run_appS {v : Value} {l : List Int} {s : ByteArray} (hT : Sl P T E 1 1 (.int .u8 0)) (hU : P.underlying U = some .string) (ho : (Rs.own (.int .u8) E v l).inv w) (hb : l.length + s.size ≤ 140737488355328) :
   ∃ v' w', (Builtin.append_ #[T, U] ty #[v, .string s]).run P w = .ok v' w' ∧ (Rs.own (.int .u8) E v' (l ++ sb s)).inv w' ∧ Ch (Rs.own (.int .u8) E v l).fp w w' ∧ (∀ b, v'.ownBlock = some b → v.ownBlock = some b ∨ w.heap.size ≤ b) ∧ (v' = .slice none 0 0 ↔ v = .slice none 0 0 ∧ s.size = 0) := by
 obtain ⟨t1, i, t2, t3, t4, t5, t6, t7⟩ := hT
 have h63 : l.length + s.size ≤ maxLen := by unfold maxLen; omega
 have ho' : w.ownsRow 0 E 1 v l.length ((Enc.int .u8).all l) := ho
 have fin : ∀ v' w', w'.ownsRow 0 E 1 v' (l.length + s.size) ((Enc.int .u8).all l ++ Lib.strCells s) → (Rs.own (.int .u8) E v' (l ++ sb s)).inv w' := fun v' w' h => by
   show w'.ownsRow 0 E 1 v' (l ++ sb s).length ((Enc.int .u8).all (l ++ sb s))
   rw [List.length_append, sb_len, (Enc.int .u8).all_app, ← sb_cells]; exact h
 rcases ho'.2 with ⟨hv, hl⟩ | ⟨g, cap, cur, hv, _, hh, h4, h5, h6, h7⟩
 · have hl' : l = [] := List.eq_nil_of_length_eq_zero hl
   subst hl'
   have hw : w.ownsRow w.heap.size E 1 v 0 [] := ⟨by simp, .inl ⟨hv, rfl⟩⟩
   obtain ⟨v', w', hr, ho2, hg, hi⟩ := Lib.run_append_own_string (P := P) (w := w) w.heap.size T U ty E i t1 hU t2 t5 t3 t4 v 0 [] hw s (by simpa using h63) (by simpa using hb) (Nat.le_refl _)
   refine ⟨v', w', hr, fin _ _ ⟨by simpa [Enc.all] using ho2.1, ?_⟩, .grown hg (fun k hk => hk), fun b hb => ?_, hi⟩
   · rcases ho2.2 with ⟨a, b⟩ | ⟨g, cap, cur, a, _, c⟩
     · exact .inl ⟨a, by simpa using b⟩
     · exact .inr ⟨g, cap, cur, by simpa using a, Nat.zero_le _, by simpa [Enc.all] using c⟩
   · rcases ho2.2 with ⟨a, _⟩ | ⟨g, cap, cur, a, c, _⟩
     · rw [a] at hb; cases hb
     · rw [a] at hb; cases hb; exact .inr c
 · obtain ⟨v', w', hr, ho2, hg, hi⟩ := Lib.run_append_own_string (P := P) (w := w) 0 T U ty E i t1 hU t2 t5 t3 t4 v l.length _ ho' s h63 hb (Nat.zero_le _)
   refine ⟨v', w', hr, fin _ _ ho2, .grown hg (fun k hk => hk), fun b hb' => ?_, hi⟩
   subst hv
   by_cases hroom : l.length + s.size ≤ cap
   · have hr2 := Lib.run_append_room_string (P := P) (w := w) T U ty E i t1 hU t2 t3 g l.length cap cur hh s hroom (by omega)
     have heq := hr.symm.trans hr2
     have hv' : v' = .slice (some ⟨g, 0, none⟩) (l.length + s.size) cap := by injection heq
     rw [hv'] at hb'; exact .inl hb'
   · have holds : ∀ j u, ((Enc.int .u8).all l)[j]? = some u → w.cell? ((⟨g, 0, none⟩ : Addr).add j) = some u := World.ownsRow.cells (g := g) ho' rfl
     have hr2 := Lib.run_append_grow_string (P := P) (w := w) T U ty E i _ t1 hU t2 t5 ⟨g, 0, none⟩ l.length cap _ (by rw [t3]; exact (Enc.int .u8).all_len l) holds s (by omega) (by omega) (by rw [t4]; exact growslice_fits (by omega) (by omega))
     have heq := hr.symm.trans hr2
     have hv' : v' = .slice (some ⟨w.heap.size, 0, none⟩) (l.length + s.size) (grownCap w (l.length + s.size) cap E) := by injection heq
     rw [hv'] at hb'; cases hb'; exact .inr (Nat.le_refl _)
end
def Rs.bld (b : Nat) (v : Value) (l : List Int) : Rs where
 fp := fun x => x = b ∨ v.ownBlock = some x
 inv := fun w => (∃ p, (p = .pointer none ∨ p = .pointer (some ⟨b, 0, none⟩)) ∧ (Rs.blk b #[p, v] 55).inv w) ∧ (Rs.own (.int .u8) 5 v l).inv w ∧ v.ownBlock ≠ some b ∧ (l = [] → v = .slice none 0 0)
 loc := by
   rintro w w' h ⟨⟨p, hp, h1⟩, h2, h3⟩
   exact ⟨⟨p, hp, (Rs.blk b #[p, v] 55).loc w w' (fun x hx => h x (.inl hx)) h1⟩, (Rs.own (.int .u8) 5 v l).loc w w' (fun x hx => h x (.inr hx)) h2, h3⟩
 bd := by
   rintro w ⟨⟨p, _, h1⟩, h2, _⟩ x hx
   exact hx.elim (fun e => (Rs.blk b #[p, v] 55).bd w h1 x e) (fun e => (Rs.own (.int .u8) 5 v l).bd w h2 x e)
theorem bld_st {b : Nat} {v p : Value} {l : List Int} {w : World} (h1 : (Rs.blk b #[p, v] 55).inv w) (h2 : (Rs.own (.int .u8) 5 v l).inv w) (h3 : v.ownBlock ≠ some b) : St (Rs.bld b v l).fp w w [.blk b #[p, v] 55, .own (.int .u8) 5 v l] := by
 refine ⟨.refl _ _, ?_, ?_, ?_⟩
 · intro r hr; simp at hr; rcases hr with rfl | rfl
   · exact h1
   · exact h2
 · intro r hr x hx; simp at hr; rcases hr with rfl | rfl
   · exact .inr (.inl hx)
   · exact .inr (.inr hx)
 · refine List.pairwise_cons.2 ⟨fun r hr x hx hy => ?_, List.pairwise_singleton _ _⟩
   rw [List.mem_singleton.1 hr] at hy
   have hx' : x = b := hx
   have hy' : v.ownBlock = some x := hy
   exact h3 (by rw [hy', hx'])
theorem bld_new {w : World} : (Rs.bld w.heap.size (.slice none 0 0) []).inv (w.alloc (.cells #[.pointer none, .slice none 0 0] 55)) :=
 ⟨⟨_, .inl rfl, by show (w.heap.push _)[w.heap.size]? = _; simp⟩, ⟨by simp [Enc.all], .inl ⟨rfl, rfl⟩⟩, by simp [Value.ownBlock], fun _ => rfl⟩
theorem bld_check {b : Nat} {v p : Value} {w : World} (hp : p = .pointer none ∨ p = .pointer (some ⟨b, 0, none⟩)) (h : (Rs.blk b #[p, v] 55).inv w) :
   Calls Tryz.prog 57 #[.pointer (some ⟨b, 0, none⟩)] w fun e w' => e = .returned (.tuple #[]) ∧ (Rs.blk b #[.pointer (some ⟨b, 0, none⟩), v] 55).inv w' ∧ Ch (fun x => x = b) w w' := by
 rcases hp with rfl | rfl
 · refine (Any.Builder_copyCheck_fresh { Tryz.lays156 with } Tryz.Builder_Extra_156.toX72 b w (blk_cell h (by rfl)) ?_ (blk_frozen h)).mono ?_
   · simp only [Rs.blk] at h
     simp [World.shape?, h]; rfl
   · rintro e w' ⟨rfl, rfl⟩
     exact ⟨rfl, by have := blk_set (o := 0) (.pointer (some ⟨b, 0, none⟩)) h; simpa using this, .set _ _ _ rfl⟩
 · refine (Any.Builder_copyCheck_used { Tryz.lays156 with } Tryz.Builder_Extra_156.toX72 b w (blk_cell h (by rfl))).mono ?_
   rintro e w' ⟨rfl, rfl⟩
   exact ⟨rfl, h, .refl _ _⟩
section
variable {ρ : Option Nat} {N : Nat} {t : Fr} {w w0 : World} {X : Nat → Prop} {L : List Rs} {R : Value → World → Prop} {d : Option Nat} {ty T U E : TypeId} {ps : String} {af : Array Edge} {g : Option (Nat × Bool)} {x y : Operand}
theorem y_check {b : Nat} {v p : Value} {ats : Array TypeId} (H : St X w0 w L) (q : Nat) (hq : L[q]? = some (.blk b #[p, v] 55)) (hp : p = .pointer none ∨ p = .pointer (some ⟨b, 0, none⟩)) (hf : En Tryz.prog 57) (hx : ev t x = .pointer (some ⟨b, 0, none⟩))
   (h : ∀ w', St X w0 w' (L.set q (.blk b #[.pointer (some ⟨b, 0, none⟩), v] 55)) → R (.tuple #[]) w') : Yd Tryz.prog ρ N ⟨d, .call ⟨.value (.func 57), #[x], ats⟩, ty, ps, af, g⟩ t w R := by
 refine y_callL hf (vs := [.pointer (some ⟨b, 0, none⟩)]) (by simp [hx]) ((bld_check hp (H.get q hq)).mono ?_)
 rintro _ w' ⟨rfl, h1, h2⟩
 exact ⟨_, rfl, h w' (H.put q hq h2 h1 (fun _ e => .inl e))⟩
theorem y_appS {P : Program} {v : Value} {l : List Int} {s : ByteArray} (hT : Sl P T E 1 1 (.int .u8 0)) (hU : P.underlying U = some .string) (H : St X w0 w L) (q : Nat) (hq : L[q]? = some (.own (.int .u8) E v l)) (hx : ev t x = v) (hy : ev t y = .string s) (hb : l.length + s.size ≤ 140737488355328)
   (h : ∀ v' w', (v' = .slice none 0 0 ↔ v = .slice none 0 0 ∧ s.size = 0) → St X w0 w' (L.set q (.own (.int .u8) E v' (l ++ sb s))) → R v' w') : Yd P ρ N ⟨d, .call ⟨.builtin .append, #[x, y], #[T, U]⟩, ty, ps, af, g⟩ t w R := by
 obtain ⟨v', w', h1, h2, h3, h4, h5⟩ := run_appS (P := P) (ty := ty) hT hU (H.get q hq) hb
 refine y_val (v := v') (w' := w') ?_ (h v' w' h5 (H.put q hq h3 h2 h4))
 simp [execOp, resolve, invoke, builtin, hx, hy, h1]
end
end Go.Proofs.YtkndgkbgbmhjoaaGreatDoor.Gw
namespace Go.Proofs.YtkndgkbgbmhjoaaGreatDoor.Gw
open Go Go.RowKit
set_option linter.unusedVariables false
set_option linter.unusedSimpArgs false
set_option maxRecDepth 100000 in
theorem w_en_57 : En Tryz.prog 57 := ⟨_, _, Tryz.func57, by kernel_rfl, rfl⟩
theorem w_fa_55_1 : Fa Tryz.prog 55 1 1 := ⟨_, _, Tryz.underlying55, rfl, rfl, 0, by kernel_rfl⟩
theorem w_sc_22 : Sc Tryz.prog 22 := ⟨_, Tryz.underlying22, rfl⟩
theorem w_sl_22 : Sl Tryz.prog 22 5 1 1 (.int .u8 0) := sl_of Tryz.underlying22 (by kernel_rfl) rfl (by decide)
theorem w_sz_22 : Sz Tryz.prog 22 1 := by show _ = _; kernel_rfl
theorem w_cvl_9 : ((#[9] : Array TypeId)[0]?).bind Tryz.prog.underlying = some .string := by show Option.bind (some 9) _ = _; rw [Option.bind_some]; exact Tryz.underlying9
set_option maxRecDepth 100000 in
set_option maxHeartbeats 4000000 in
theorem bld_write0 {w : World} {b0_ : Nat} {p0_ v0_ : Value} {l0_ : List Int} {s0_ : ByteArray} (hp_ : p0_ = .pointer none ∨ p0_ = .pointer (some ⟨b0_, 0, none⟩)) (hn_ : l0_.length + s0_.size ≤ 140737488355328)
   (h1_ : (Rs.blk b0_ #[p0_, v0_] 55).inv w) (h2_ : (Rs.own (.int .u8) 5 v0_ l0_).inv w) (h3_ : v0_.ownBlock ≠ some b0_) :
   Calls Tryz.prog 30 #[.pointer (some ⟨b0_, 0, none⟩), .string s0_] w fun e w' => e = .returned (.tuple #[.int .i64 (s0_.size : Int), .nilIface]) ∧ ∃ v' : Value, (v' = .slice none 0 0 ↔ v0_ = .slice none 0 0 ∧ s0_.size = 0) ∧ St (Rs.bld b0_ v0_ l0_).fp w w' [.blk b0_ #[.pointer (some ⟨b0_, 0, none⟩), v'] 55, .own (.int .u8) 5 v' (l0_ ++ sb s0_)] := by
 have H := bld_st h1_ h2_ h3_
 refine calls_of_wc (N := 19) (args := [.pointer (some ⟨b0_, 0, none⟩), .string s0_]) Tryz.func30 rfl rfl (by simp) ?_
 refine rg (v_ rfl (sg (.int .i64 0) rfl) (v_ rfl (sg (.nilIface) rfl) (nl (rg (v_ rfl (mv (.pointer (some ⟨b0_, 0, none⟩)) rfl) (e_ rfl (y_check H 0 rfl hp_ w_en_57 rfl (fun w H => (nl (rg (v_ rfl (mv (.pointer (some ⟨b0_, 0, none⟩)) rfl) (v_ rfl (mv (.pointer (some ⟨b0_, 0, none⟩)) rfl) (v_ rfl (r_nilck rfl) (v_ rfl (r_faddr w_fa_55_1 rfl) (v_ rfl (r_load w_sc_22 rfl (blk_cell (H.get 0 rfl) rfl)) (v_ rfl (mv (.string s0_) rfl) ?_))))))))))))))))
 have g3 := hn_
 refine e_ rfl (y_appS w_sl_22 Tryz.underlying9 H 1 rfl rfl rfl (by omega) (fun v1 w hv2 H => (v_ rfl (r_nilck rfl) (v_ rfl (r_faddr w_fa_55_1 rfl) ?_))))
 obtain ⟨p4, n5, c6, rfl⟩ := own_form (H.get 1 rfl)
 refine s_ (y_storeB w_sz_22 H 0 rfl rfl rfl rfl rfl (fun w H => (nl (rg (v_ rfl (mv (.string s0_) rfl) (v_ rfl (r_lenS w_cvl_9 rfl) (v_ rfl (sg (.int .i64 (s0_.size : Int)) rfl) (v_ rfl (sg (.nilIface) rfl) (nl (wc_ret ?_))))))))))
 exact ⟨.inl rfl, _, tk0 rfl ⟨resN rfl (rv_t (rv_t rv_nil)), rfl, _, hv2, H⟩⟩
theorem bld_write {b : Nat} {v : Value} {l : List Int} {s : ByteArray} {w : World} (h : (Rs.bld b v l).inv w) (hn : l.length + s.size ≤ 140737488355328) :
   Calls Tryz.prog 30 #[.pointer (some ⟨b, 0, none⟩), .string s] w fun e w' => e = .returned (.tuple #[.int .i64 (s.size : Int), .nilIface]) ∧ ∃ v' : Value, St (Rs.bld b v l).fp w w' [.bld b v' (l ++ sb s)] := by
 obtain ⟨⟨p, hp, h1⟩, h2, h3, h4⟩ := h
 refine (bld_write0 hp hn h1 h2 h3).mono ?_
 rintro _ w' ⟨rfl, v', hv, H⟩
 refine ⟨rfl, v', H.ch, ?_, ?_, List.pairwise_singleton _ _⟩
 · intro r hr
   rw [List.mem_singleton.1 hr]
   refine ⟨⟨_, .inr rfl, H.get 0 rfl⟩, H.get 1 rfl, fun e => ?_, fun e => ?_⟩
   · exact H.apart 0 1 (by decide) rfl rfl b rfl e
   · obtain ⟨e1, e2⟩ := List.append_eq_nil_iff.1 e
     refine hv.2 ⟨h4 e1, ?_⟩
     rw [← sb_len, e2]; rfl
 · intro r hr x hx
   rw [List.mem_singleton.1 hr] at hx
   rcases hx with hx | hx
   · exact H.fp _ (List.getElem_mem (n := 0) (by simp)) x hx
   · exact H.fp _ (List.getElem_mem (n := 1) (by simp)) x hx
end Go.Proofs.YtkndgkbgbmhjoaaGreatDoor.Gw
namespace Go.Proofs.YtkndgkbgbmhjoaaGreatDoor.Gw
open Go Go.RowKit Go.Shelf
set_option linter.unusedSimpArgs false
set_option linter.unusedVariables false
theorem ch_freeze {w : World} {g n : Nat} (h : ∃ c e fz, w.heap[g]? = some (.cells c e fz)) : Ch (fun x => x = g) w (w.freeze ⟨g, 0, none⟩ n) := by
 unfold World.freeze
 split
 · exact .refl _ _
 · refine ⟨rfl, rfl, rfl, by simp, fun b hb hx => ?_⟩
   have : ¬ b = g := hx
   simp [Array.getElem?_modify, show ¬ g = b from fun e => this e.symm]
set_option maxHeartbeats 2000000 in
set_option maxRecDepth 100000 in
theorem bld_tell1 {P : Program} {ρ : Ren} (L : Lays.n169 P ρ) (X : Builder.Extra P ρ) (b g cap : Nat) (p : Value) (cur : Array Value) (l : List UInt8) (w : World) (h0 : l ≠ []) (hbk : w.heap[b]? = some (.cells #[p, .slice (some ⟨g, 0, none⟩) l.length cap] (ρ.t 72) (0, 0)))
   (hg : w.heap[g]? = some (.cells cur (ρ.t 5) (0, 0))) (hnc : l.length ≤ cap) (hcm : cap ≤ maxLen) (hcs : cur.size = cap) (htake : cur.toList.take l.length = Lib.byteCells l) :
   Calls P (ρ.f 169) #[.pointer (some ⟨b, 0, none⟩)] w fun e w' => e = .returned (.string ⟨l.toArray⟩) ∧ Ch (fun x => x = g) w w' := by
 have hl0 : l.length ≠ 0 := by simpa using h0
 have c1 : w.drew.cell? ⟨b, 1, none⟩ = some (.slice (some ⟨g, 0, none⟩) l.length cap) := by
   have : w.drew.heap[b]? = some (.cells #[p, .slice (some ⟨g, 0, none⟩) l.length cap] (ρ.t 72) (0, 0)) := hbk
   rw [Lib.cell_of_heap this]; rfl
 have hSD : (Builtin.unsafeSliceData_ #[(ρ.t 37)] (ρ.t 127) #[.slice (some ⟨g, 0, none⟩) l.length cap]).run P w.drew = .ok (.pointer (some ⟨g, 0, none⟩)) w.drew :=
   Lib.run_unsafeSliceData_row _ _ _ _ _ _ (by omega)
 have hUS : (Builtin.unsafeString_ #[(ρ.t 127), (ρ.t 3)] (ρ.t 9) #[.pointer (some ⟨g, 0, none⟩), .int .i64 l.length]).run P w.drew = .ok (.string ⟨l.toArray⟩) (w.drew.freeze ⟨g, 0, none⟩ l.length) := by
   refine Lib.run_unsafeString_row w.drew (ρ.t 127) (ρ.t 3) (ρ.t 9) (ρ.t 5) L.t127 X.cellsByte g cur.size (by have hg' : w.drew.heap[g]? = some (.cells cur (ρ.t 5) (0, 0)) := hg; simp [World.shape?, hg']) l h0 (by omega) (by unfold maxLen at hcm; omega) ?_
   intro j x hx
   have hg' : w.drew.heap[g]? = some (.cells cur (ρ.t 5) (0, 0)) := hg
   have hj : (Lib.byteCells l)[j]? = some (Value.int .u8 x.toNat) := by simp [Lib.byteCells, hx]
   rw [← htake, List.getElem?_take] at hj
   have hj2 : cur[j]? = some (Value.int .u8 x.toNat) := by
     split at hj
     · rw [Array.getElem?_toList] at hj; exact hj
     · cases hj
   rw [Addr.add_lit]
   simp [World.cell?, hg', hj2]
 have mixed := L.mixed
 have t72 := L.t72; have a72 := L.a72; have z72 := L.z72; have v72 := L.v72; have u72 := run_underlying L.t72
 have t70 := L.t70; have a70 := L.a70; have z70 := L.z70; have v70 := L.v70; have u70 := run_underlying L.t70
 have t37 := L.t37; have a37 := L.a37; have z37 := L.z37; have v37 := L.v37; have u37 := run_underlying L.t37
 have t127 := L.t127; have a127 := L.a127; have z127 := L.z127; have v127 := L.v127; have u127 := run_underlying L.t127
 have t3 := L.t3; have a3 := L.a3; have z3 := L.z3; have v3 := L.v3; have u3 := run_underlying L.t3
 have t9 := L.t9; have a9 := L.a9; have z9 := L.z9; have v9 := L.v9; have u9 := run_underlying L.t9
 have t5 := X.t5; have a5 := X.a5; have z5 := X.z5; have v5 := X.v5; have u5 := run_underlying X.t5
 go_enter L.f169, Body.n169_ntmps ρ
 go_wp2
 go_region_o
 all_goals (go_wp2; go_ret; exact ⟨rfl, (Ch.drew _ w).trans (ch_freeze ⟨cur, _, _, hg⟩)⟩)
theorem bytes_sb (s : ByteArray) : Lib.byteCells s.data.toList = (Enc.int .u8).all (sb s) := by rw [← Lib.strCells_eq, sb_cells]
theorem bld_tell {b : Nat} {v : Value} {s : ByteArray} {w : World} (h : (Rs.bld b v (sb s)).inv w) :
   Calls Tryz.prog 31 #[.pointer (some ⟨b, 0, none⟩)] w fun e w' => e = .returned (.string s) ∧ Ch (Rs.bld b v (sb s)).fp w w' := by
 obtain ⟨⟨p, hp, h1⟩, h2, h3, h4⟩ := h
 rcases h2.2 with ⟨hv, hl⟩ | ⟨g, cap, cur, hv, _, hh, e4, e5, e6, e7⟩
 · subst hv
   have hs : s = ⟨#[]⟩ := by
     apply ByteArray.ext; apply Array.ext'
     have : s.data.toList.length = 0 := by simpa [sb] using hl
     exact List.eq_nil_of_length_eq_zero this
   refine (Any.Builder_String_nil { Tryz.lays156 with } Tryz.Builder_Extra_156 w.heap.size b p w h1).mono ?_
   rintro _ w' ⟨rfl, hb⟩
   exact ⟨by rw [hs], .of_below hb⟩
 · subst hv
   have hl : (sb s).length = s.data.toList.length := by simp [sb]
   by_cases h0 : s.data.toList = []
   · have := h4 (by simp [sb, h0]); cases this
   · rw [hl] at h1 e4
     rw [hl] at e7 h3
     refine (bld_tell1 { Tryz.lays156 with } Tryz.Builder_Extra_156 b g cap p cur s.data.toList w h0 h1 hh e4 e5 (by rw [e6]; exact Nat.mul_one _) (by rw [bytes_sb, ← e7]; congr 1; exact (Nat.mul_one _).symm)).mono ?_
     rintro _ w' ⟨rfl, hc⟩
     refine ⟨rfl, hc.mono fun x _ e => .inr ?_⟩
     have e' : x = g := e
     subst e'; rfl
theorem sb_cat (a b : ByteArray) : sb a ++ sb b = sb (cat a b) := by simp [sb, cat]
end Go.Proofs.YtkndgkbgbmhjoaaGreatDoor.Gw
namespace Go.Proofs.YtkndgkbgbmhjoaaGreatDoor.Gw
open Go Go.RowKit Go.Shelf
set_option linter.unusedSimpArgs false
set_option linter.unusedVariables false
set_option linter.unusedSectionVars false
variable [LibO]
def Rs.lv : Rs where
 fp := fun x => x = 1 ∨ x = 0
 inv := fun w => (Lib.TabIs Tryz.prog w "internal/strconv.uint64pow10" .u64 Lib.pow10Tab ∧ ∃ m : Int, w.cell? ⟨0, 0, none⟩ = some (.int .i64 m)) ∧ w.heap[1]? = LibO.p ∧ w.heap[0]? = LibO.m
 loc := by
   rintro w w' h ⟨⟨h1, m, h2⟩, h3, h4⟩
   refine ⟨⟨?_, m, (World.cell?_of_block (w := w) (a := ⟨0, 0, none⟩) (h _ (.inr rfl))).trans h2⟩, (h _ (.inl rfl)).trans h3, (h _ (.inr rfl)).trans h4⟩
   have e : Tryz.prog.globalNamed "internal/strconv.uint64pow10" = some 1 := by kernel_rfl
   unfold Lib.TabIs World.var? at h1 ⊢
   rw [e, Option.bind_some] at h1 ⊢
   rw [h _ (.inl rfl)]; exact h1
 bd := by
   rintro w ⟨⟨h1, m, h2⟩, _⟩ x (rfl | rfl)
   · have e : Tryz.prog.globalNamed "internal/strconv.uint64pow10" = some 1 := by kernel_rfl
     unfold Lib.TabIs World.var? at h1
     rw [e, Option.bind_some] at h1
     rcases Nat.lt_or_ge 1 w.heap.size with h' | h'
     · exact h'
     · rw [Array.getElem?_eq_none h'] at h1; cases h1
   · unfold World.cell? at h2
     rcases Nat.lt_or_ge 0 w.heap.size with h' | h'
     · exact h'
     · rw [Array.getElem?_eq_none (by exact h')] at h2; cases h2
theorem st_below {w w' : World} (h : Below w.heap.size w w') : St no w w' [] := ⟨.of_below h, by simp, by simp, .nil⟩
theorem st_belowX {r : Rs} {w w' : World} (hr : r.inv w) (h : Below w.heap.size w w') : St r.fp w w' [r] :=
 (St.start hr).call (.of_below h)
def num (n : Int) : List UInt8 :=
 let u := n.toNat
 if u < 10 then [UInt8.ofNat (48 + u)] else if u < 100 then [UInt8.ofNat (48 + u / 10), UInt8.ofNat (48 + u % 10)] else [UInt8.ofNat (48 + u / 100), UInt8.ofNat (48 + u / 10 % 10), UInt8.ofNat (48 + u % 10)]
theorem num_itoa {n : Int} (h0 : 0 ≤ n) (h1 : n < 1000) : Lib.itoa n = num n := by
 obtain ⟨u, rfl⟩ : ∃ u : Nat, n = u := ⟨n.toNat, by omega⟩
 have hu : u < 1000 := by omega
 rw [Lib.itoa_nonneg]
 unfold num
 simp only [Int.toNat_natCast]
 by_cases a : u < 10
 · rw [if_pos a, Lib.decDigits_one a]
 · rw [if_neg a]
   by_cases b : u < 100
   · rw [if_pos b, Lib.decDigits_two a b]
   · rw [if_neg b, Lib.decDigits, dif_neg a, Lib.decDigits_two (by omega) (by omega)]
     rw [Nat.div_div_eq_div_mul]; rfl
def strconv_Itoa.f (a0 : Int) : Option ByteArray := grd (decide (0 ≤ a0 ∧ a0 < 1000)) (some ⟨⟨num a0⟩⟩)
theorem strconv_Itoa.calls {w0 : World} {a0 : Int} {r : ByteArray} (hf : Rs.lv.inv w0) (E : strconv_Itoa.f a0 = some r) : Calls Tryz.prog 32 #[.int .i64 a0] w0 fun e w' => e = .returned (.string r) ∧ St Rs.lv.fp w0 w' [.lv] := by
 obtain ⟨⟨h0, h1⟩, E⟩ := grd_some E
 cases E
 refine (Tryz.strconv_Itoa a0 (by omega) (by omega) w0 hf.1.1).mono ?_
 rintro _ w' ⟨rfl, k, os, rfl⟩
 exact ⟨by rw [num_itoa h0 h1], st_belowX hf (Lib.below_grow _ w0 (Nat.le_refl _) k os)⟩
def strconv_Atoi.f (a0 : ByteArray) : Option Int := grd (decide (a0.size ≤ 18)) (Lib.atoi a0.data.toList)
theorem strconv_Atoi.calls {w0 : World} {a0 : ByteArray} {r : Int} (E : strconv_Atoi.f a0 = some r) : Calls Tryz.prog 66 #[.string a0] w0 fun e w' => e = .returned (.tuple #[.int .i64 r, .nilIface]) ∧ St no w0 w' [] := by
 obtain ⟨h0, E⟩ := grd_some E
 refine (Tryz.strconv_Atoi a0 r h0 E w0).mono ?_
 rintro _ w' ⟨rfl, t, rfl⟩
 exact ⟨rfl, st_below (Joins.below_bytesWorld _ _ _ _ (Nat.le_refl _))⟩
def strings_Trim.f (a0 a1 : ByteArray) : Option ByteArray := grd (decide (a0.size ≤ 140737488355328) && decide (a1.size < 4294967281) && a1.data.toList.all (fun b => Nat.blt b.toNat 128)) (some ⟨⟨Lib.trimS a0.data.toList a1.data.toList⟩⟩)
theorem strings_Trim.calls {w0 : World} {a0 a1 : ByteArray} {r : ByteArray} (E : strings_Trim.f a0 a1 = some r) : Calls Tryz.prog 65 #[.string a0, .string a1] w0 fun e w' => e = .returned (.string r) ∧ St no w0 w' [] := by
 unfold strings_Trim.f grd at E
 cases h : (decide (a0.size ≤ 140737488355328) && decide (a1.size < 4294967281) && a1.data.toList.all (fun b => Nat.blt b.toNat 128)) with
 | false => rw [h] at E; cases E
 | true =>
   rw [h] at E; cases E
   simp only [Bool.and_eq_true, decide_eq_true_eq] at h
   refine (Any.strings_Trim_laid Tryz.lays160 (by kernel_rfl) a0 a1 w0 (by omega) (by omega) (fun j b hb => by have := List.all_eq_true.1 h.2 b (List.mem_of_getElem? hb); exact Nat.le_of_ble_eq_true this)).mono ?_
   rintro _ w' ⟨rfl, hb⟩
   exact ⟨rfl, st_below hb⟩
def spl (c : UInt8) : List UInt8 → List (List UInt8)
 | [] => [[]]
 | b :: l => if b == c then [] :: spl c l else match spl c l with
   | [] => [[b]]
   | h :: t => (b :: h) :: t
theorem spl_ne (c : UInt8) : ∀ l, spl c l ≠ []
 | [] => by simp [spl]
 | b :: l => by
   rw [spl]; split
   · simp
   · split <;> simp
theorem spl_count (c : UInt8) : ∀ l : List UInt8, Lib.splitK [c] 0 (Lib.count l [c]) l = spl c l
 | [] => by rw [Lib.count_miss (by rfl)]; rfl
 | b :: l => by
   have ih := spl_count c l
   have hix : Lib.index (b :: l) [c] = Lib.indexByte (b :: l) c := Lib.index_one _ _
   by_cases h : (b == c) = true
   · have h0 : Lib.index (b :: l) [c] = ((0 : Nat) : Int) := by rw [hix, Lib.indexByte, if_pos h]; rfl
     rw [Lib.count_hit (by simp) h0, Nat.add_comm 1, Lib.splitK, h0, if_neg (by decide)]
     simp only [Int.toNat_natCast, Nat.zero_add, List.take_zero, List.length_singleton, List.drop_succ_cons, List.drop_zero]
     rw [ih, spl, if_pos h]
   · rw [spl, if_neg h]
     by_cases hm : Lib.index l [c] = -1
     · have h0 : Lib.index (b :: l) [c] = -1 := by
         rw [hix, Lib.indexByte, if_neg h, if_pos]; rw [← Lib.index_one, hm]; rfl
       rw [Lib.count_miss h0]
       rw [Lib.count_miss hm] at ih
       rw [← ih]; rfl
     · have hge := Lib.index_ge l [c]
       obtain ⟨j, hj⟩ : ∃ j : Nat, Lib.index l [c] = j := ⟨(Lib.index l [c]).toNat, by omega⟩
       have h0 : Lib.index (b :: l) [c] = ((j + 1 : Nat) : Int) := by
         rw [hix, Lib.indexByte, if_neg h, if_neg]
         · rw [← Lib.index_one, hj]; rfl
         · rw [← Lib.index_one]; simpa using hm
       rw [Lib.count_hit (by simp) hj, Nat.add_comm 1, Lib.splitK, hj, if_neg (by simp)] at ih
       rw [Lib.count_hit (by simp) h0, Nat.add_comm 1, Lib.splitK, h0, if_neg (by first | (simp; done) | (simp; omega))]
       simp only [Int.toNat_natCast, Nat.add_zero, List.length_singleton, List.drop_succ_cons, List.take_succ_cons] at ih ⊢
       rw [← ih]
def strings_Split.f (a0 a1 : ByteArray) : Option (List ByteArray) :=
 match a1.data.toList with
 | [c] => grd (decide (a0.size ≤ 4294967280)) (some ((spl c a0.data.toList).map fun l => ⟨⟨l⟩⟩))
 | _ => none
theorem strings_Split.calls {w0 : World} {a0 a1 : ByteArray} {r : List ByteArray} (hf : Rs.lv.inv w0) (E : strings_Split.f a0 a1 = some r) : Calls Tryz.prog 28 #[.string a0, .string a1] w0 fun e w' => ∃ u0 : Value, e = .returned u0 ∧ St Rs.lv.fp w0 w' [.lv, .own .str 9 u0 r] := by
 unfold strings_Split.f at E
 split at E
 · rename_i c hc
   obtain ⟨h0, E⟩ := grd_some E
   cases E
   obtain ⟨⟨h1, m, hm⟩, _⟩ := id hf
   have hs : a1.size = 1 := by show a1.data.size = 1; rw [← Array.length_toList, hc]; rfl
   have hb := Lib.splitB_data a1 0 (Lib.countB a0 a1) a0
   have hl := Lib.splitB_all a1 (by omega) 0 _ a0 rfl
   have hr : Lib.splitB a1 0 (Lib.countB a0 a1) a0 = (spl c a0.data.toList).map fun l => ⟨⟨l⟩⟩ := by
     have e : Lib.countB a0 a1 = Lib.count a0.data.toList [c] := by unfold Lib.countB; rw [hc]
     rw [e, hc, spl_count] at hb
     rw [e, ← hb, List.map_map]
     conv => lhs; rw [← List.map_id (Lib.splitB a1 0 _ a0)]
     rfl
   refine (Tryz.strings_Split a0 a1 m w0 (by omega) hm (by omega)).mono ?_
   rintro _ w' ⟨rfl, rfl⟩
   refine ⟨_, rfl, (St.start hf).new (.alloc _ _ _) ?_ ?_⟩
   · rw [← hr]
     refine ⟨Enc.all_len _ _, .inr ⟨w0.heap.size, _, _, by rw [hl], Nat.zero_le _, by show (w0.heap.push _)[w0.heap.size]? = _; simp; rfl, by rw [hl]; exact Nat.le_refl _, ?_, ?_, ?_⟩⟩
     · have := Lib.countB_le a1 (by omega) a0.size a0 (Nat.le_refl _); unfold maxLen; omega
     · simp [hl, Enc.str]
     · rw [List.take_of_length_le (by simp [hl, Enc.str])]
       simp [Enc.all, Enc.str, List.map_eq_flatMap]
   · intro b hb
     have : (Value.slice (some ⟨w0.heap.size, 0, none⟩) _ _).ownBlock = some b := hb
     cases this; exact Nat.le_refl _
 · cases E
def strings_Join.f (a0 : List ByteArray) (a1 : ByteArray) : Option ByteArray := grd (decide (a0.length ≤ 140737488355328 ∧ (Lib.join (a0.map (·.data.toList)) a1.data.toList).length ≤ 140737488355328)) (some ⟨⟨Lib.join (a0.map (·.data.toList)) a1.data.toList⟩⟩)
theorem strings_Join.calls {w0 : World} {a0 : List ByteArray} {a1 : ByteArray} {v0_ : Value} {r : ByteArray} (h0 : Rd (.of .str) w0 (Ol no w0) v0_ a0) (E : strings_Join.f a0 a1 = some r) : Calls Tryz.prog 77 #[v0_, .string a1] w0 fun e w' => e = .returned (.string r) ∧ St no w0 w' [] := by
 obtain ⟨⟨g1, g2⟩, E⟩ := grd_some E
 cases E
 obtain ⟨p, c, rfl, h2, h3, h4⟩ := h0
 by_cases hn : a0 = []
 · subst hn
   refine (Tryz.strings_Join_none p c a1 w0).mono ?_
   rintro _ w' ⟨rfl, rfl⟩
   exact ⟨rfl, .nil _ _⟩
 · rcases h4 with ⟨h, _⟩ | ⟨b, o, rfl, h5, h6⟩
   · exact absurd h hn
   · refine (Tryz.strings_Join b o c a0 a1 w0 (fun j x hx => ?_) ?_ g1 h2 g2).mono ?_
     · obtain ⟨cs, rfl, hr⟩ := h6 j x hx
       have := hr 0 (.string x) rfl
       simpa [Enc.str, Kd.of] using this
     · exact h5.1
     · rintro _ w' ⟨rfl, hb⟩
       exact ⟨rfl, st_below hb⟩
end Go.Proofs.YtkndgkbgbmhjoaaGreatDoor.Gw
namespace Go.Proofs.YtkndgkbgbmhjoaaGreatDoor.Gw
open Go Go.RowKit Go.Shelf Go.Sort
set_option linter.unusedSimpArgs false
set_option linter.unusedVariables false
set_option linter.unusedSectionVars false
variable [LibO]
section
variable {ρ : Option Nat} {N : Nat} {t : Fr} {w w0 : World} {X : Nat → Prop} {L : List Rs} {R : Value → World → Prop} {d : Option Nat} {ty T U E : TypeId} {ps : String} {af : Array Edge} {g : Option (Nat × Bool)} {x y z : Operand} {ats : Array TypeId}
theorem y_bnew {P : Program} (hz : Zr P 55 #[.pointer none, .slice none 0 0]) (H : St X w0 w L) (h : ∀ b w', St X w0 w' (L ++ [.bld b (.slice none 0 0) (sb ByteArray.empty)]) → R (.pointer (some ⟨b, 0, none⟩)) w') : Yd P ρ N ⟨d, .alloc 55, ty, ps, af, g⟩ t w R := by
 obtain ⟨v, h1, h2⟩ := hz
 refine y_alloc h1 h2 (h _ _ (H.new (.alloc _ _ _) bld_new ?_))
 rintro b (e | e)
 · exact Nat.le_of_eq e.symm
 · cases e
theorem y_bw {b : Nat} {v : Value} {s s2 : ByteArray} (H : St X w0 w L) (q : Nat) (hq : L[q]? = some (.bld b v (sb s))) (hf : En Tryz.prog 30) (hx : ev t x = .pointer (some ⟨b, 0, none⟩)) (hy : ev t y = .string s2) (hn : s.size + s2.size ≤ 140737488355328)
   (h : ∀ v' w', St X w0 w' (L.set q (.bld b v' (sb (cat s s2)))) → R (.tuple #[.int .i64 (s2.size : Int), .nilIface]) w') : Yd Tryz.prog ρ N ⟨d, .call ⟨.value (.func 30), #[x, y], ats⟩, ty, ps, af, g⟩ t w R := by
 refine y_callL hf (vs := [.pointer (some ⟨b, 0, none⟩), .string s2]) (by simp [hx, hy]) ((bld_write (H.get q hq) (by simpa using hn)).mono ?_)
 rintro _ w' ⟨rfl, v', K⟩
 rw [sb_cat] at K
 have := H.appX q hq K
 rw [List.append_nil] at this
 exact ⟨_, rfl, h v' w' this⟩
theorem y_bt {b : Nat} {v : Value} {s : ByteArray} (H : St X w0 w L) (q : Nat) (hq : L[q]? = some (.bld b v (sb s))) (hf : En Tryz.prog 31) (hx : ev t x = .pointer (some ⟨b, 0, none⟩))
   (h : ∀ w', St X w0 w' (L.set q .nul) → R (.string s) w') : Yd Tryz.prog ρ N ⟨d, .call ⟨.value (.func 31), #[x], ats⟩, ty, ps, af, g⟩ t w R := by
 refine y_callL hf (vs := [.pointer (some ⟨b, 0, none⟩)]) (by simp [hx]) ((bld_tell (H.get q hq)).mono ?_)
 rintro _ w' ⟨rfl, hc⟩
 exact ⟨_, rfl, h w' (H.put q hq hc trivial (fun _ e => e.elim))⟩
theorem str_all : ∀ m : List ByteArray, Enc.str.all m = (m.map fun s => s.data.toList).map encStr
 | [] => rfl
 | a :: m => by
   show [Value.string a] ++ Enc.str.all m = _
   rw [str_all m]; rfl
theorem own_del {E : TypeId} {v : Value} {l : List ByteArray} {i j : Nat} (h : (Rs.own .str E v l).inv w) (hl0 : 0 < l.length) (hij : i ≤ j) (hj : j ≤ l.length) :
   Calls Tryz.prog 29 #[v, .int .i64 i, .int .i64 j] w fun e w' => ∃ v', e = .returned v' ∧ (Rs.own .str E v' (l.take i ++ l.drop j)).inv w' ∧ Ch (Rs.own .str E v l).fp w w' ∧ v'.ownBlock = v.ownBlock := by
 rcases id h.2 with ⟨hv, hl⟩ | ⟨g, cap, cur, hv, _, hh, h4, h5, h6, h7⟩
 · omega
 · subst hv
   obtain ⟨m, hm⟩ : ∃ m : List (List UInt8), m = l.map fun s => s.data.toList := ⟨_, rfl⟩
   have hn : m.length = l.length := by rw [hm, List.length_map]
   have e7 : cur.toList.take l.length = m.map encStr := by rw [hm, ← str_all, ← h7]; congr 1; exact (Nat.mul_one _).symm
   have hcell : ∀ k, k < l.length → cur[k]? = some (encStr (m.toArray[k]!)) := fun k hk => by
     have hk' : k < m.length := by omega
     have : (cur.toList.take l.length)[k]? = some (encStr m[k]) := by rw [e7]; simp [hk']
     rw [List.getElem?_take, if_pos hk, Array.getElem?_toList] at this
     rw [this, getElem!_pos m.toArray k (by simpa using hk')]
     simp
   have hH : Holds encStr w g 0 m.toArray := fun k hk => by
     have hk' : k < l.length := by rw [← hn]; simpa using hk
     refine ⟨?_, by simp [World.frozen?, hh]⟩
     have := hcell k hk'
     simp only [World.cell?, hh, Nat.zero_add]
     exact this
   have c := Tryz.slices_Delete_string g 0 cap i j m w hH (by rw [hn]; exact h4) (by unfold maxLen at h5; omega) hij (by rw [hn]; exact hj)
   rw [hn] at c
   obtain ⟨D, hDe⟩ : ∃ D, D = m.take i ++ m.drop j ++ List.replicate (j - i) [] := ⟨_, rfl⟩
   rw [← hDe] at c
   refine c.mono ?_
   rintro _ w' ⟨rfl, q, rfl⟩
   have hlen : (l.take i ++ l.drop j).length = l.length - (j - i) := by simp; omega
   have hD : D.length = l.length := by rw [hDe]; simp [hn]; omega
   have hcs : cur.size = cap := h6.trans (Nat.mul_one _)
   refine ⟨_, rfl, ⟨Enc.all_len _ _, .inr ⟨g, cap, putCells encStr 0 D.toArray cur, by rw [hlen], Nat.zero_le _, ?_, by rw [hlen]; omega, h5, ?_, ?_⟩⟩, ?_, rfl⟩
   · have hh' : (Sort.ahead w q).heap[g]? = some (.cells cur E (0, 0)) := hh
     simp [putRow, mapBlock, Array.getElem?_modify, onCells]
     exact ⟨_, hh, rfl⟩
   · simp only [putCells, Array.size_mapIdx]; exact h6
   · have ht := take_putCells cur D (by rw [hD]; omega)
     rw [hD] at ht
     have e : (l.take i ++ l.drop j).length * Enc.str.sz ≤ l.length := by rw [hlen]; show _ * 1 ≤ _; omega
     have e2 : (putCells encStr 0 D.toArray cur).toList.take ((l.take i ++ l.drop j).length * Enc.str.sz) = (D.map encStr).take ((l.take i ++ l.drop j).length * Enc.str.sz) := by
       rw [← ht, List.take_take, Nat.min_eq_left e]
     rw [e2, str_all, hDe, List.map_append]
     have e3 : (l.take i ++ l.drop j).length * Enc.str.sz = ((m.take i ++ m.drop j).map encStr).length := by
       rw [List.length_map, hlen]; simp [hn]; show _ * 1 = _; omega
     rw [e3, List.take_left, hm]
     simp [List.map_take, List.map_drop]
   · refine ⟨rfl, rfl, rfl, by simp [putRow, mapBlock, Sort.ahead], fun b hb hx => ?_⟩
     have : ¬ b = g := fun e => hx (by subst e; rfl)
     simp [putRow, mapBlock, Sort.ahead, Array.getElem?_modify, show ¬ g = b from fun e => this e.symm]
theorem y_del {E : TypeId} {v : Value} {l : List ByteArray} {i j : Int} (H : St X w0 w L) (q : Nat) (hq : L[q]? = some (.own .str E v l)) (hf : En Tryz.prog 29) (hx : ev t x = v) (hy : ev t y = .int .i64 i) (hz : ev t z = .int .i64 j) (h0 : 0 ≤ i) (h1 : i ≤ j) (h2 : j ≤ l.length) (h3 : 0 < l.length)
   (h : ∀ v' w', St X w0 w' (L.set q (.own .str E v' (l.take i.toNat ++ l.drop j.toNat))) → R v' w') : Yd Tryz.prog ρ N ⟨d, .call ⟨.value (.func 29), #[x, y, z], ats⟩, ty, ps, af, g⟩ t w R := by
 have ei : ((i.toNat : Nat) : Int) = i := Int.toNat_of_nonneg h0
 have ej : ((j.toNat : Nat) : Int) = j := Int.toNat_of_nonneg (by omega)
 refine y_callL hf (vs := [v, .int .i64 (i.toNat : Nat), .int .i64 (j.toNat : Nat)]) (by simp [hx, hy, hz, ei, ej]) ((own_del (H.get q hq) h3 (by omega) (by omega)).mono ?_)
 rintro _ w' ⟨v', rfl, k1, k2, k3⟩
 refine ⟨_, rfl, h v' w' (H.put q hq k2 k1 fun b hb => .inl ?_)⟩
 show v.ownBlock = some b
 rw [← k3]; exact hb
theorem r_slcA {P : Program} {b n : Nat} {lo : Int} {k : IntKind} (hT : Ar P T n 1) (hx : ev t x = .pointer (some ⟨b, 0, none⟩)) (hy : ev t y = .int k lo) (h0 : 0 ≤ lo) (h1 : lo < n) : Rv P ⟨d, .slice T x (some y) none none, ty, ps, af, g⟩ t w (.slice (some ⟨b, lo.toNat, none⟩) (n - lo.toNat) (n - lo.toNat)) := by
 obtain ⟨E, t1, t2⟩ := hT
 have hz : (sizeOf E).run P w = .ok 1 w := by
   cases hi : P.info? E with
   | none => simp [hi] at t2
   | some i => simp only [hi, Option.map_some, Option.some.injEq] at t2; simp [sizeOf, typeInfo, hi, t2]
 have hne : ¬ n = lo.toNat := by omega
 have hle : lo ≤ n := by omega
 unfold Rv
 simp [execOp, hx, hy, Instr.sliceAt, run_underlying t1, Instr.sureAddr, Instr.sliceBounds, run_sliceBound, h0, hle, hz, hne, Addr.add_lit]
theorem r_cvA {P : Program} {b n : Nat} {lo : Int} {T' e E : TypeId} {l : List Int} (hs : P.underlying T = some (.slice e)) (he : P.underlying e = some (.int .u8)) (hd : P.underlying T' = some .string) (h : (Rs.own (.int .u8) E (.slice (some ⟨b, 0, none⟩) n n) l).inv w) (hx : ev t x = .slice (some ⟨b, lo.toNat, none⟩) (n - lo.toNat) (n - lo.toNat)) :
   Rv P ⟨d, .convert T T' x, ty, ps, af, g⟩ t w (.string (strOfNums (l.drop lo.toNat))) := by
 have hl := arr_len h
 have hr := arr_range h
 have hc := run_convert_bytes_arg (P := P) w T e hs he b lo.toNat (n - lo.toNat) (n - lo.toNat) (l.drop lo.toNat) (by simp [hl]) (fun i hi => by
   have := hr (lo.toNat + i) (.int .u8 ((l.drop lo.toNat).getD i 0)) (by
     have : lo.toNat + i < l.length := by omega
     rw [List.getElem?_map, List.getElem?_eq_getElem this, List.getD_eq_getElem?_getD, List.getElem?_drop, List.getElem?_eq_getElem this]; rfl)
   simpa using this) T' hd
 unfold Rv
 simp [execOp, hx, hc]
end
end Go.Proofs.YtkndgkbgbmhjoaaGreatDoor.Gw
namespace Go.Proofs.YtkndgkbgbmhjoaaGreatDoor.Gw
open Go Go.RowKit
set_option linter.unusedSimpArgs false
set_option linter.unusedVariables false
set_option linter.unusedSectionVars false
variable [LibO]
def Rs.env : Rs where
 fp := fun x => Rs.gt.fp x ∨ Rs.lv.fp x
 inv := fun w => Rs.gt.inv w ∧ Rs.lv.inv w
 loc := fun w w' h ⟨h1, h2⟩ => ⟨Rs.gt.loc w w' (fun b hb => h b (.inl hb)) h1, Rs.lv.loc w w' (fun b hb => h b (.inr hb)) h2⟩
 bd := fun w ⟨h1, h2⟩ x hx => hx.elim (Rs.gt.bd w h1 x) (Rs.lv.bd w h2 x)
theorem gt_lv (b : Nat) (h : Rs.gt.fp b) : ¬ Rs.lv.fp b := by
 have h' : b = 7 := h
 subst h'
 rintro (h | h) <;> revert h <;> decide
theorem env_inv {w : World} (h1 : Rs.gt.inv w) (h2 : Rs.lv.inv w) : Rs.env.inv w := ⟨h1, h2⟩
theorem env_open {w : World} (h : Rs.env.inv w) : St Rs.env.fp w w [.gt, .lv] := by
 refine ⟨.refl _ _, ?_, ?_, ?_⟩
 · intro r hr; simp at hr; rcases hr with rfl | rfl
   · exact h.1
   · exact h.2
 · intro r hr x hx; simp at hr; rcases hr with rfl | rfl
   · exact .inr (.inl hx)
   · exact .inr (.inr hx)
 · refine List.pairwise_cons.2 ⟨fun r hr x hx hy => ?_, List.pairwise_singleton _ _⟩
   rw [List.mem_singleton.1 hr] at hy
   exact gt_lv x hx hy
section
variable {X : Nat → Prop} {w0 w w' : World} {L M : List Rs}
theorem St.appSub {r r' s : Rs} (H : St X w0 w L) (q : Nat) (hq : L[q]? = some r) (hs : ∀ b, s.fp b → r.fp b) (K : St s.fp w w' (s :: M)) (hr' : r'.inv w') (hfp : ∀ b, r'.fp b → r.fp b) : St X w0 w' (L.set q r' ++ M) := by
 have hr := H.get q hq
 obtain ⟨d1, d2⟩ := List.pairwise_cons.1 K.dj
 refine H.appX q hq (r' := r') ⟨K.ch.mono fun b _ hb => hs b hb, ?_, ?_, ?_⟩
 · intro u hu
   rcases List.mem_cons.1 hu with rfl | hu
   · exact hr'
   · exact K.inv u (List.mem_cons_of_mem _ hu)
 · intro u hu b hb
   rcases List.mem_cons.1 hu with rfl | hu
   · exact .inr (hfp b hb)
   · exact (K.fp u (List.mem_cons_of_mem _ hu) b hb).imp id (hs b)
 · refine List.pairwise_cons.2 ⟨fun u hu b x y => ?_, d2⟩
   rcases K.fp u (List.mem_cons_of_mem _ hu) b y with h | h
   · have := r.bd w hr b (hfp b x); omega
   · exact d1 u hu b h y
theorem St.appE (H : St X w0 w L) (i j : Nat) (hi : L[i]? = some .gt) (hj : L[j]? = some .lv) (hij : i ≠ j) (K : St Rs.env.fp w w' (.gt :: .lv :: M)) : St X w0 w' (L ++ M) := by
 have ho : ∀ k (hk : k < L.length), k ≠ i → k ≠ j → ∀ b, L[k].fp b → ¬ Rs.env.fp b := fun k hk h1 h2 b hb he => by
   have hk' : L[k]? = some L[k] := List.getElem?_eq_getElem hk
   exact he.elim (H.apart k i h1 hk' hi b hb) (H.apart k j h2 hk' hj b hb)
 obtain ⟨d1, d2⟩ := List.pairwise_cons.1 K.dj
 obtain ⟨d3, d4⟩ := List.pairwise_cons.1 d2
 have hinv : ∀ r ∈ L, r.inv w' := fun r hr => by
   obtain ⟨k, hk, rfl⟩ := List.getElem_of_mem hr
   by_cases h1 : k = i
   · subst h1
     have : L[k] = Rs.gt := by rw [List.getElem?_eq_getElem hk] at hi; exact Option.some.inj hi
     rw [this]; exact K.get 0 rfl
   · by_cases h2 : k = j
     · subst h2
       have : L[k] = Rs.lv := by rw [List.getElem?_eq_getElem hk] at hj; exact Option.some.inj hj
       rw [this]; exact K.get 1 rfl
     · exact Rs.keep (H.inv _ (List.getElem_mem hk)) K.ch (ho k hk h1 h2)
 have gi := H.get i hi
 have gj := H.get j hj
 refine ⟨H.ch.trans' K.ch (fun b hb he => ?_), ?_, ?_, ?_⟩
 · rcases he with h | h
   · exact (H.fp _ (List.mem_of_getElem? hi) b h).resolve_left (by omega)
   · exact (H.fp _ (List.mem_of_getElem? hj) b h).resolve_left (by omega)
 · intro r hr
   rcases List.mem_append.1 hr with h | h
   · exact hinv r h
   · exact K.inv r (List.mem_cons_of_mem _ (List.mem_cons_of_mem _ h))
 · intro r hr b hb
   rcases List.mem_append.1 hr with h | h
   · exact H.fp r h b hb
   · rcases K.fp r (List.mem_cons_of_mem _ (List.mem_cons_of_mem _ h)) b hb with h2 | h2
     · exact .inl (Nat.le_trans H.ch.size h2)
     · exact (h2.elim (fun x => d1 r (List.mem_cons_of_mem _ h) b x hb) (fun x => d3 r h b x hb)).elim
 · refine List.pairwise_append.2 ⟨H.dj, d4, fun r hr s hs b x y => ?_⟩
   rcases K.fp s (List.mem_cons_of_mem _ (List.mem_cons_of_mem _ hs)) b y with h2 | h2
   · have := r.bd w (H.inv r hr) b x; omega
   · exact h2.elim (fun z => d1 s (List.mem_cons_of_mem _ hs) b z y) (fun z => d3 s hs b z y)
theorem St.less {r r' : Rs} (H : St X w0 w L) (q : Nat) (hq : L[q]? = some r) (hr' : r.inv w → r'.inv w) (hfp : ∀ b, r'.fp b → r.fp b) : St X w0 w (L.set q r') :=
 H.put q hq (.refl _ _) (hr' (H.get q hq)) fun b hb => .inl (hfp b hb)
end
structure DS where
 f1 : Option FD
 f2 : Option FD
def dwC : Option FD → List Value
 | none => [.int .u32 0, .int .i32 0, .int .u32 0, .int .i32 0, .pointer none]
 | some f => [.int .u32 1, .int .i32 0, .int .u32 0, .int .i32 1, .pointer (some ⟨f.p, 0, none⟩)]
def dsC (d : DS) (cnt : List Int) : List Value := dwC none ++ dwC d.f1 ++ dwC d.f2 ++ dwC none ++ cnt.map (Value.int .i64)
def DS.own (d : DS) (b : Nat) : Prop := (∃ f, d.f1 = some f ∧ (b = f.p ∨ b = f.t)) ∨ (∃ f, d.f2 = some f ∧ (b = f.p ∨ b = f.t))
def Rs.gd (b : Nat) (d : DS) (n : List Int) : Rs where
 fp := fun x => x = b ∨ x = 7 ∨ d.own x
 inv := fun w => Rs.gt.inv w ∧ ¬ b = 7 ∧ (n.length = 16 ∧ (Rs.blk b (dsC d n).toArray 89).inv w) ∧ ¬ d.own b ∧
   (∀ f, d.f1 = some f → f.k = 1 ∧ (Rs.fld f).inv w) ∧ (∀ f, d.f2 = some f → f.k = 2 ∧ (Rs.fld f).inv w) ∧ (∀ f g, d.f1 = some f → d.f2 = some g → ∀ x, (x = f.p ∨ x = f.t) → ¬ (x = g.p ∨ x = g.t))
 loc := by
   rintro w w' h ⟨h1, h2, ⟨h3, h4⟩, h5, h6, h7, h8⟩
   refine ⟨Rs.gt.loc w w' (fun x hx => h x (.inr (.inl hx))) h1, h2, ⟨h3, (Rs.blk b (dsC d n).toArray 89).loc w w' (fun x hx => h x (.inl hx)) h4⟩, h5, fun f hf => ?_, fun f hf => ?_, h8⟩
   · refine ⟨(h6 f hf).1, (Rs.fld f).loc w w' (fun x hx => ?_) (h6 f hf).2⟩
     rcases (hx : x = f.p ∨ x = f.t ∨ x = 7) with hx | hx | hx
     · exact h x (.inr (.inr (.inl ⟨f, hf, .inl hx⟩)))
     · exact h x (.inr (.inr (.inl ⟨f, hf, .inr hx⟩)))
     · exact h x (.inr (.inl hx))
   · refine ⟨(h7 f hf).1, (Rs.fld f).loc w w' (fun x hx => ?_) (h7 f hf).2⟩
     rcases (hx : x = f.p ∨ x = f.t ∨ x = 7) with hx | hx | hx
     · exact h x (.inr (.inr (.inr ⟨f, hf, .inl hx⟩)))
     · exact h x (.inr (.inr (.inr ⟨f, hf, .inr hx⟩)))
     · exact h x (.inr (.inl hx))
 bd := by
   rintro w ⟨h1, h2, ⟨h3, h4⟩, h5, h6, h7, h8⟩ x hx
   rcases hx with hx | hx | ⟨f, hf, hx⟩ | ⟨f, hf, hx⟩
   · exact (Rs.blk b (dsC d n).toArray 89).bd w h4 x hx
   · exact Rs.gt.bd w h1 x hx
   · exact (Rs.fld f).bd w (h6 f hf).2 x (hx.imp id .inl)
   · exact (Rs.fld f).bd w (h7 f hf).2 x (hx.imp id .inl)
theorem fld_keep {g : FD} {w w' : World} (h : (Rs.fld g).inv w) (hg : Rs.gt.inv w') (hk : ∀ b, (b = g.p ∨ b = g.t) → w'.heap[b]? = w.heap[b]?) : (Rs.fld g).inv w' := by
 obtain ⟨h1, h2, ⟨a, b, c, m, e1, e2, e3⟩ | ⟨a, b, c⟩⟩ := h
 · exact ⟨hg, h2, .inl ⟨a, (hk _ (.inl rfl)).trans b, c, m, hg, e2, (hk _ (.inr rfl)).trans e3⟩⟩
 · exact ⟨hg, h2, .inr ⟨a, (hk _ (.inl rfl)).trans b, c⟩⟩
theorem fld_ne {g : FD} {w : World} (h : (Rs.fld g).inv w) : ∀ x, (x = g.p ∨ x = g.t) → ¬ x = 7 := by
 obtain ⟨h1, h2, ⟨a, b, c, m, e1, e2, e3⟩ | ⟨a, b, c⟩⟩ := h
 · rintro x (rfl | rfl)
   · exact h2
   · exact e2
 · rintro x (rfl | rfl)
   · exact h2
   · rw [c]; exact h2
def DS.has (d : DS) (f : FD) : Prop := d.f1 = some f ∨ d.f2 = some f
theorem gd_gt {b : Nat} {n : List Int} {d : DS} {w : World} (h : (Rs.gd b d n).inv w) : Rs.gt.inv w := h.1
theorem gd_fld {b : Nat} {n : List Int} {d : DS} {w : World} {f : FD} (h : (Rs.gd b d n).inv w) (hf : d.has f) : (Rs.fld f).inv w := hf.elim (fun e => (h.2.2.2.2.1 f e).2) (fun e => (h.2.2.2.2.2.1 f e).2)
theorem gd_sub {b : Nat} {n : List Int} {d : DS} {f : FD} (hf : d.has f) (x : Nat) (hx : (Rs.fld f).fp x) : (Rs.gd b d n).fp x := by
 rcases (hx : x = f.p ∨ x = f.t ∨ x = 7) with hx | hx | hx
 · exact .inr (.inr (hf.elim (fun e => .inl ⟨f, e, .inl hx⟩) (fun e => .inr ⟨f, e, .inl hx⟩)))
 · exact .inr (.inr (hf.elim (fun e => .inl ⟨f, e, .inr hx⟩) (fun e => .inr ⟨f, e, .inr hx⟩)))
 · exact .inr (.inl hx)
theorem gd_own {b : Nat} {n : List Int} {d : DS} {f : FD} {w : World} (h : (Rs.gd b d n).inv w) (hf : d.has f) : ¬ (Rs.fld f).fp b := by
 intro hx
 rcases (hx : b = f.p ∨ b = f.t ∨ b = 7) with hx | hx | hx
 · exact h.2.2.2.1 (hf.elim (fun e => .inl ⟨f, e, .inl hx⟩) (fun e => .inr ⟨f, e, .inl hx⟩))
 · exact h.2.2.2.1 (hf.elim (fun e => .inl ⟨f, e, .inr hx⟩) (fun e => .inr ⟨f, e, .inr hx⟩))
 · exact h.2.1 hx
theorem gd_used {b : Nat} {n : List Int} {d : DS} {f : FD} {w w' : World} (h : (Rs.gd b d n).inv w) (hf : d.has f) (hc : Ch (Rs.fld f).fp w w') (hi : (Rs.fld f).inv w') : (Rs.gd b d n).inv w' := by
 have hb := gd_own h hf
 have hbd := (Rs.gd b d n).bd w h
 obtain ⟨h1, h2, ⟨h3, h4⟩, h5, h6, h7, h8⟩ := id h
 have other : ∀ g : FD, (∀ x, (x = g.p ∨ x = g.t) → (Rs.gd b d n).fp x ∧ ¬ (x = f.p ∨ x = f.t)) → (Rs.fld g).inv w → (Rs.fld g).inv w' := fun g hg hgi => by
   refine fld_keep hgi hi.1 fun x hx => hc.block x (hbd x (hg x hx).1) ?_
   rintro (e | e | e)
   · exact (hg x hx).2 (.inl e)
   · exact (hg x hx).2 (.inr e)
   · exact fld_ne hgi x hx e
 refine ⟨hi.1, h2, ⟨h3, (hc.block b (hbd b (.inl rfl)) hb).trans h4⟩, h5, fun g hg => ?_, fun g hg => ?_, h8⟩
 · refine ⟨(h6 g hg).1, ?_⟩
   rcases hf with e | e
   · rw [hg] at e; injection e with e; subst e; exact hi
   · refine other g (fun x hx => ⟨.inr (.inr (.inl ⟨g, hg, hx⟩)), h8 g f hg e x hx⟩) (h6 g hg).2
 · refine ⟨(h7 g hg).1, ?_⟩
   rcases hf with e | e
   · refine other g (fun x hx => ⟨.inr (.inr (.inr ⟨g, hg, hx⟩)), fun y => h8 f g e hg x y hx⟩) (h7 g hg).2
   · rw [hg] at e; injection e with e; subst e; exact hi
theorem gd_gtd {b : Nat} {n : List Int} {d : DS} {w w' : World} (h : (Rs.gd b d n).inv w) (hc : Ch Rs.gt.fp w w') (hi : Rs.gt.inv w') : (Rs.gd b d n).inv w' := by
 have hbd := (Rs.gd b d n).bd w h
 obtain ⟨h1, h2, ⟨h3, h4⟩, h5, h6, h7, h8⟩ := id h
 refine ⟨hi, h2, ⟨h3, (hc.block b (hbd b (.inl rfl)) h2).trans h4⟩, h5, fun g hg => ⟨(h6 g hg).1, ?_⟩, fun g hg => ⟨(h7 g hg).1, ?_⟩, h8⟩
 · exact fld_keep (h6 g hg).2 hi fun x hx => hc.block x (hbd x (.inr (.inr (.inl ⟨g, hg, hx⟩)))) (fld_ne (h6 g hg).2 x hx)
 · exact fld_keep (h7 g hg).2 hi fun x hx => hc.block x (hbd x (.inr (.inr (.inr ⟨g, hg, hx⟩)))) (fld_ne (h7 g hg).2 x hx)
section
variable {P : Program} {ρ : Option Nat} {N : Nat} {t : Fr} {w w' w0 : World} {X : Nat → Prop} {L M : List Rs} {R : Value → World → Prop} {dd : Option Nat} {ty T : TypeId} {ps : String} {af : Array Edge} {g : Option (Nat × Bool)} {x y : Operand} {b : Nat} {d : DS} {n : List Int}
theorem St.appF {f : FD} (H : St X w0 w L) (q : Nat) (hq : L[q]? = some (.gd b d n)) (hf : d.has f) (K : St (Rs.fld f).fp w w' (.fld f :: M)) : St X w0 w' (L.set q (.gd b d n) ++ M) :=
 H.appSub q hq (gd_sub hf) K (gd_used (H.get q hq) hf K.ch (K.get 0 rfl)) fun _ h => h
theorem St.appG (H : St X w0 w L) (q : Nat) (hq : L[q]? = some (.gd b d n)) (K : St Rs.gt.fp w w' (.gt :: M)) : St X w0 w' (L.set q (.gd b d n) ++ M) :=
 H.appSub q hq (fun x hx => .inr (.inl hx)) K (gd_gtd (H.get q hq) K.ch (K.get 0 rfl)) fun _ h => h
theorem ol_fld {f : FD} {α : Type} {κ : Kd α} {v : Value} {l : List α} (hf : d.has f) (h : Rd κ w (Ol (Rs.gd b d n).fp w) v l) : Rd κ w (Ol (Rs.fld f).fp w) v l := h.mono fun x hx => ⟨hx.1, fun y => hx.2 (gd_sub hf x y)⟩
theorem ol_gt {α : Type} {κ : Kd α} {v : Value} {l : List α} (h : Rd κ w (Ol (Rs.gd b d n).fp w) v l) : Rd κ w (Ol Rs.gt.fp w) v l := h.mono fun x hx => ⟨hx.1, fun y => hx.2 (.inr (.inl y))⟩
theorem r_mkIf {fs : Array Field} {v : Value} (hT : P.underlying T = some (.struct fs)) (hx : ev t x = v) : Rv P ⟨dd, .makeInterface T x, ty, ps, af, g⟩ t w (.iface T v) := by
 unfold Rv
 simp [execOp, hx, Instr.makeInterface, run_underlying hT, Sem.run_bind]
theorem y_boxD {cs : List Value} (H : St X w0 w L) (q : Nat) (hq : L[q]? = some .gt) (hx : ev t x = .agg cs.toArray) (hc : cs = dsC ⟨none, none⟩ (List.replicate 16 0)) (h : ∀ b w', St X w0 w' (L.set q (.gd b ⟨none, none⟩ (List.replicate 16 0))) → R (.pointer (some ⟨b, 0, none⟩)) w') : Yd P ρ N ⟨dd, .box 89 x, ty, ps, af, g⟩ t w R := by
 have hg := H.get q hq
 have hlt := Rs.gt.bd w hg 7 rfl
 refine y_box (cs := cs.toArray) (by rw [hx]; rfl) (h _ _ (H.put q hq (.alloc _ _ _) ⟨Rs.keep hg (.alloc no _ _) (fun _ _ h => h), by omega, ⟨by simp, ?_⟩, ?_, by simp, by simp, by simp⟩ ?_))
 · subst hc
   show (w.heap.push _)[w.heap.size]? = _
   simp
 · rintro (⟨f, e, _⟩ | ⟨f, e, _⟩) <;> cases e
 · rintro x (e | e | ⟨f, e, _⟩ | ⟨f, e, _⟩)
   · exact .inr (Nat.le_of_eq e.symm)
   · exact .inl e
   · cases e
   · cases e
end
section
variable {w w0 : World} {L : List Rs} {α : Type} {κ : Kd α} {v : Value} {l : List α}
theorem env_rd (H : St Rs.env.fp w0 w L) (hi : L[0]? = some .gt) (hj : L[1]? = some .lv) (hf : Rs.env.inv w0) (h : Rd κ w0 (Ol no w0) v l) : Rd κ w (Ol no w0) v l :=
 h.keep fun b hb => by
   by_cases hE : Rs.env.fp b
   · rcases hE with e | e | e
     · have e' : b = 7 := e
       rw [e']; exact (H.get 0 hi).2.trans hf.1.2.symm
     · rw [e]; exact (H.get 1 hj).2.1.trans hf.2.2.1.symm
     · rw [e]; exact (H.get 1 hj).2.2.trans hf.2.2.2.symm
   · exact H.ch.block b hb.1 hE
theorem env_arg {X : Nat → Prop} (H : St X w0 w L) (h : Rd κ w (Ol no w0) v l) : Rd κ w (Ol no w) v l :=
 h.mono fun _ hb => ⟨Nat.lt_of_lt_of_le hb.1 H.ch.size, fun x => x⟩
theorem env_below (H : St Rs.env.fp w0 w [.gt, .lv]) (hf : Rs.env.inv w0) : Ch no w0 w :=
 ⟨H.ch.os, H.ch.tape, H.ch.output, H.ch.size, fun b hb _ => by
   by_cases hE : Rs.env.fp b
   · rcases hE with e | e | e
     · have e' : b = 7 := e
       rw [e']; exact (H.get 0 rfl).2.trans hf.1.2.symm
     · rw [e]; exact (H.get 1 rfl).2.1.trans hf.2.2.1.symm
     · rw [e]; exact (H.get 1 rfl).2.2.trans hf.2.2.2.symm
   · exact H.ch.block b hb hE⟩
end
section
variable {P : Program} {ρ : Option Nat} {N : Nat} {Q : Exit → Fr → World → Prop} {t : Fr} {w : World}
theorem wa_either {ops : Array Oper} {S : World → Prop} {ds : List Nat} {n : Nat} {l li lj : Array Bool} {i j : Nat} {oi oj : Oper} (hi : ops[i]? = some oi) (hj : ops[j]? = some oj) (gi : oi.guard = none) (gj : oj.guard = none) (oki : ok N oi.dst = true) (okj : ok N oj.dst = true)
   (hc : ((Region.ready .any ops l == [i, j]) && (l.setIfInBounds i true == li) && (l.setIfInBounds j true == lj)) = true)
   (h1 : Yd P ρ N oi t w fun v w' => (i ∉ ds → S w') ∧ Wa P ρ N ops Q S ds n li (updO t oi.dst v) w')
   (h2 : Yd P ρ N oj t w fun v w' => (j ∉ ds → S w') ∧ Wa P ρ N ops Q S ds n lj (updO t oj.dst v) w') : Wa P ρ N ops Q S ds (n + 1) l t w := by
 simp only [Bool.and_eq_true, beq_iff_eq] at hc
 obtain ⟨⟨e1, e2⟩, e3⟩ := hc
 intro ac ha
 refine ⟨fun h0 => (by rw [e1] at h0; cases h0), fun q hq => ?_⟩
 rw [e1] at hq
 rcases List.mem_cons.1 hq with e | e
 · subst e
   unfold wpOpIn
   simp only [hi, Region.wanted, gi, if_true]
   refine h1 ac ha _ _ fun v w' ⟨s, r⟩ => ⟨s, ?_⟩
   rw [e2]
   exact r _ (ha.put oki v)
 · rw [List.mem_singleton] at e
   subst e
   unfold wpOpIn
   simp only [hj, Region.wanted, gj, if_true]
   refine h2 ac ha _ _ fun v w' ⟨s, r⟩ => ⟨s, ?_⟩
   rw [e3]
   exact r _ (ha.put okj v)
end
end Go.Proofs.YtkndgkbgbmhjoaaGreatDoor.Gw
namespace Go.Proofs.YtkndgkbgbmhjoaaGreatDoor.Gw
open Go Go.RowKit
set_option linter.unusedVariables false
set_option linter.unusedSimpArgs false
set_option linter.unusedSectionVars false
variable [LibO]
theorem bd0_tab : Bd Tryz.prog 237 tabOff.toArray [(0, 3), (3, 1), (4, 766)] := ⟨_, .agg tabOff.toArray, Tryz.underlying237, by kernel_rfl, rfl, fun w => by kernel_rfl⟩
theorem y_addB {ρ : Option Nat} {N : Nat} {t : Fr} {w w0 : World} {X : Nat → Prop} {L : List Rs} {R : Value → World → Prop} {d : Option Nat} {ty T1 : TypeId} {ps : String} {af : Array Edge} {g : Option (Nat × Bool)} {b o : Nat} {cs : Array Value} {xs : Array Operand} {ats : Array TypeId} (H : St X w0 w L) (q : Nat) (hq : L[q]? = some (.blk b cs T1)) (hc : cs[o]? = some (.int .i32 0)) (hf : En Tryz.prog 125) (hv : xs.toList.map (ev t) = [.pointer (some ⟨b, o, none⟩), .int .i32 1]) {cs' : Array Value} (hs : cs.setIfInBounds o (.int .i32 1) = cs')
   (h : ∀ w', St X w0 w' (L.set q (.blk b cs' T1)) → R (.int .i32 1) w') : Yd Tryz.prog ρ N ⟨d, .call ⟨.value (.func 125), xs, ats⟩, ty, ps, af, g⟩ t w R := by
 have hb := H.get q hq
 refine y_callL hf hv ((on_add ⟨b, o, none⟩ w (blk_cell hb hc) (blk_frozen hb)).mono ?_)
 rintro _ w' ⟨rfl, rfl⟩
 refine ⟨_, rfl, h _ (H.put q hq (.set _ _ _ rfl) ?_ (fun _ e => .inl e))⟩
 have := blk_set (o := o) (.int .i32 1) hb
 rw [hs] at this; exact this
theorem y_done {ρ : Option Nat} {N : Nat} {t : Fr} {w w0 : World} {X : Nat → Prop} {L : List Rs} {R : Value → World → Prop} {d : Option Nat} {ty T1 : TypeId} {ps : String} {af : Array Edge} {g : Option (Nat × Bool)} {b o : Nat} {cs : Array Value} {xs : Array Operand} {ats : Array TypeId} {fv : Value} (H : St X w0 w L) (q : Nat) (hq : L[q]? = some (.blk b cs T1)) (hc : cs[o]? = some (.int .u32 1)) (hf : En Tryz.prog 123) (hv : xs.toList.map (ev t) = [.pointer (some ⟨b, o, none⟩), fv])
   (h : ∀ w', St X w0 w' L → R (.tuple #[]) w') : Yd Tryz.prog ρ N ⟨d, .call ⟨.value (.func 123), xs, ats⟩, ty, ps, af, g⟩ t w R := by
 have hb := H.get q hq
 refine y_callL hf hv ((on_done ⟨b, o, none⟩ 1 (by decide) fv w (blk_cell hb hc)).mono ?_)
 rintro _ w' ⟨rfl, rfl⟩
 exact ⟨_, rfl, h _ H⟩
theorem o_mo : Tryz.prog.follows .mixedOrders = true := by kernel_rfl
theorem o_sc_208 : Sc Tryz.prog 208 := ⟨_, Tryz.underlying208, rfl⟩
theorem o_sc_3 : Sc Tryz.prog 3 := ⟨_, Tryz.underlying3, rfl⟩
set_option maxRecDepth 100000 in
theorem o_en_48 : En Tryz.prog 48 := ⟨_, _, Tryz.func48, by kernel_rfl, rfl⟩
set_option maxRecDepth 100000 in
theorem o_en_80 : En Tryz.prog 80 := ⟨_, _, Tryz.func80, by kernel_rfl, rfl⟩
theorem o_bd_146 : Bd Tryz.prog 146 #[.pointer none] [(0, 1)] := ⟨_, .agg #[.pointer none], Tryz.underlying146, by kernel_rfl, rfl, fun w => by kernel_rfl⟩
theorem o_bd_150 : Bd Tryz.prog 150 #[.nilIface, .int .i64 0] [(0, 1), (1, 1)] := ⟨_, .agg #[.nilIface, .int .i64 0], Tryz.underlying150, by kernel_rfl, rfl, fun w => by kernel_rfl⟩
theorem o_fa_81_2 : Fa Tryz.prog 81 2 4 := ⟨_, _, Tryz.underlying81, rfl, rfl, 0, by kernel_rfl⟩
theorem o_sz_79 : Sz Tryz.prog 79 1 := by show _ = _; kernel_rfl
theorem o_fa_81_1 : Fa Tryz.prog 81 1 3 := ⟨_, _, Tryz.underlying81, rfl, rfl, 0, by kernel_rfl⟩
set_option maxRecDepth 100000 in
theorem o_en_125 : En Tryz.prog 125 := ⟨_, _, Tryz.func125, by kernel_rfl, rfl⟩
theorem o_fa_81_0 : Fa Tryz.prog 81 0 0 := ⟨_, _, Tryz.underlying81, rfl, rfl, 2, by kernel_rfl⟩
set_option maxRecDepth 100000 in
theorem o_en_123 : En Tryz.prog 123 := ⟨_, _, Tryz.func123, by kernel_rfl, rfl⟩
theorem o_sc_79 : Sc Tryz.prog 79 := ⟨_, Tryz.underlying79, rfl⟩
theorem o_bd_151 : Bd Tryz.prog 151 #[] [] := ⟨_, .agg #[], Tryz.underlying151, by kernel_rfl, rfl, fun w => by kernel_rfl⟩
set_option maxRecDepth 100000 in
set_option maxHeartbeats 4000000 in
theorem of1_in {w0 w : World} {X : Nat → Prop} {b_ fa_ fb_ : Nat} {c0_ c1_ c2_ c3_ c4_ c10_ c11_ c12_ c13_ c14_ c15_ c16_ c17_ c18_ c19_ c20_ c21_ c22_ c23_ c24_ c25_ c26_ c27_ c28_ c29_ c30_ c31_ c32_ c33_ c34_ c35_ : Value} (H : St X w0 w [.blk b_ #[c0_, c1_, c2_, c3_, c4_, .int .u32 0, .int .i32 1, .int .u32 0, .int .i32 0, .pointer none, c10_, c11_, c12_, c13_, c14_, c15_, c16_, c17_, c18_, c19_, c20_, c21_, c22_, c23_, c24_, c25_, c26_, c27_, c28_, c29_, c30_, c31_, c32_, c33_, c34_, c35_] 89, .blk fb_ #[.pointer (some ⟨b_, 5, none⟩)] 208, .blk fa_ #[.int .i64 1] 3]) :
   Calls Tryz.prog 124 #[.pointer (some ⟨fa_, 0, none⟩), .pointer (some ⟨fb_, 0, none⟩)] w fun e w' => e = .returned (.tuple #[]) ∧ ∃ b5, ∃ b6, St X w0 w' [.blk b_ #[c0_, c1_, c2_, c3_, c4_, .int .u32 0, .int .i32 1, .int .u32 0, .int .i32 1, .pointer (some ⟨b6, 0, none⟩), c10_, c11_, c12_, c13_, c14_, c15_, c16_, c17_, c18_, c19_, c20_, c21_, c22_, c23_, c24_, c25_, c26_, c27_, c28_, c29_, c30_, c31_, c32_, c33_, c34_, c35_] 89, .blk fb_ #[.pointer (some ⟨b_, 5, none⟩)] 208, .blk fa_ #[.int .i64 1] 3, .blk b5 tabOff.toArray 237, .blk b6 #[.iface 146 (.agg #[.pointer (some ⟨b5, 0, none⟩)]), .int .i64 1] 150] := by
 refine calls_of_wc (N := 11) (args := [.pointer (some ⟨fa_, 0, none⟩), .pointer (some ⟨fb_, 0, none⟩)]) Tryz.func124 rfl rfl (by simp) ?_
 refine wc_seq (wc_drawnS (ds := [5]) o_mo H rfl rfl ?_)
 have H := H.drew
 refine wa_take (i := 0) (l' := #[true, false, false, false, false, false]) rfl rfl rfl (by kernel_rfl) H (fun w H => (r_load o_sc_208 rfl (blk_cell (H.get 1 rfl) rfl))) (wa_take (i := 1) (l' := #[true, true, false, false, false, false]) rfl rfl rfl (by kernel_rfl) H (fun w H => (r_load o_sc_3 rfl (blk_cell (H.get 2 rfl) rfl))) (wa_one (i := 2) (l' := #[true, true, true, false, false, false]) rfl rfl rfl (by kernel_rfl) (y_in 26 [.int .i64 1] o_en_48 Tryz.func48 rfl rfl rfl rfl (rg (v_ rfl (sg (.pointer none) rfl) (nl (wc_seq (rg (v_ rfl (mv (.int .i64 1) rfl) (nl (wc_block (rg (v_ rfl (rv_eq (v' := .bool true) (r_eql rfl rfl) rfl) (v_ rfl (sg (.bool true) rfl) (nl (wc_condT rfl (rg (e_ rfl (y_in 3 [] o_en_80 Tryz.func80 rfl rfl rfl rfl (rg (v_ rfl (sg (.pointer none) rfl) (nl (rg (v_ rfl (r_build (cs := tabOff) bd0_tab rfl) (e_ rfl (y_boxS (cs := tabOff.toArray) H rfl (fun b5 w H => (v_ rfl (sg (.pointer (some ⟨b5, 0, none⟩)) rfl) (nl (wc_ret (⟨.inl rfl, .pointer (some ⟨b5, 0, none⟩), tk0 rfl ⟨resM rfl (rv_t rv_nil) rfl, (v_ rfl (r_build (cs := [.pointer (some ⟨b5, 0, none⟩)]) o_bd_146 rfl) (v_ rfl (r_mkIf Tryz.underlying146 rfl) (v_ rfl (mv (.int .i64 1) rfl) (v_ rfl (r_build (cs := [.iface 146 (.agg #[.pointer (some ⟨b5, 0, none⟩)]), .int .i64 1]) o_bd_150 rfl) (e_ rfl (y_boxS (cs := #[.iface 146 (.agg #[.pointer (some ⟨b5, 0, none⟩)]), .int .i64 1]) H rfl (fun b6 w H => (v_ rfl (sg (.pointer (some ⟨b6, 0, none⟩)) rfl) (nl (wc_ret ((r_bk (r_thn ⟨.inl rfl, .pointer (some ⟨b6, 0, none⟩), tk0 rfl ⟨resM rfl (rv_t rv_nil) rfl, (⟨fun _ => H.sel [0, 1, 2] rfl rfl, (wa_oneV (i := 3) (l' := #[true, true, true, true, false, false]) rfl rfl rfl (by kernel_rfl) ((H.sel [0, 1, 2] rfl rfl)) (r_nilck rfl) (wa_take (i := 4) (l' := #[true, true, true, true, true, false]) rfl rfl rfl (by kernel_rfl) (H.sel [0, 1, 2] rfl rfl) (fun w H => (r_faddr o_fa_81_2 rfl)) (wa_one (i := 5) (l' := #[true, true, true, true, true, true]) rfl rfl rfl (by kernel_rfl) (y_storeB o_sz_79 H 0 rfl rfl rfl rfl rfl (fun w H => ⟨fun h => (h (by decide)).elim, ?_⟩)))))⟩)⟩⟩)))))))))))))⟩⟩)))))))))))))))))))))))))))))))
 refine wa_done (by kernel_rfl) (n_thn (wc_region (v_ rfl (r_load o_sc_208 rfl (blk_cell (H.get 1 rfl) rfl)) (v_ rfl (r_nilck rfl) (v_ rfl (r_faddr o_fa_81_1 rfl) (e_ rfl (y_addB H 0 rfl rfl o_en_125 rfl rfl (fun w H => (wl_nil ?_)))))))))
 exact ⟨.inr rfl, _, tk0 rfl ⟨resN rfl rv_nil, rfl, _, _, H⟩⟩
set_option maxRecDepth 100000 in
set_option maxHeartbeats 4000000 in
theorem y_do1 {ρ : Option Nat} {N : Nat} {t : Fr} {w0 w : World} {X : Nat → Prop} {R : Value → World → Prop} {d : Option Nat} {ty : TypeId} {ps : String} {af : Array Edge} {g : Option (Nat × Bool)} {xs : Array Operand} {ats : Array TypeId} {b_ fa_ fb_ : Nat} {c0_ c1_ c2_ c3_ c4_ c10_ c11_ c12_ c13_ c14_ c15_ c16_ c17_ c18_ c19_ c20_ c21_ c22_ c23_ c24_ c25_ c26_ c27_ c28_ c29_ c30_ c31_ c32_ c33_ c34_ c35_ : Value} (H : St X w0 w [.blk b_ #[c0_, c1_, c2_, c3_, c4_, .int .u32 0, .int .i32 0, .int .u32 0, .int .i32 0, .pointer none, c10_, c11_, c12_, c13_, c14_, c15_, c16_, c17_, c18_, c19_, c20_, c21_, c22_, c23_, c24_, c25_, c26_, c27_, c28_, c29_, c30_, c31_, c32_, c33_, c34_, c35_] 89, .blk fb_ #[.pointer (some ⟨b_, 5, none⟩)] 208, .blk fa_ #[.int .i64 1] 3])
   (hf : En Tryz.prog 123) (hv : xs.toList.map (ev t) = [.pointer (some ⟨b_, 5, none⟩), .func (.func 124) #[] #[.pointer (some ⟨fa_, 0, none⟩), .pointer (some ⟨fb_, 0, none⟩)]])
   (h : ∀ b5 b6 w', St X w0 w' [.blk b_ #[c0_, c1_, c2_, c3_, c4_, .int .u32 1, .int .i32 0, .int .u32 0, .int .i32 1, .pointer (some ⟨b6, 0, none⟩), c10_, c11_, c12_, c13_, c14_, c15_, c16_, c17_, c18_, c19_, c20_, c21_, c22_, c23_, c24_, c25_, c26_, c27_, c28_, c29_, c30_, c31_, c32_, c33_, c34_, c35_] 89, .blk fb_ #[.pointer (some ⟨b_, 5, none⟩)] 208, .blk fa_ #[.int .i64 1] 3, .blk b5 tabOff.toArray 237, .blk b6 #[.iface 146 (.agg #[.pointer (some ⟨b5, 0, none⟩)]), .int .i64 1] 150] → R (.tuple #[]) w') : Yd Tryz.prog ρ N ⟨d, .call ⟨.value (.func 123), xs, ats⟩, ty, ps, af, g⟩ t w R := by
 have hb := H.get 0 rfl
 have H1 : St X w0 (w.setCell ⟨b_, 6, none⟩ (.int .i32 1)) [.blk b_ #[c0_, c1_, c2_, c3_, c4_, .int .u32 0, .int .i32 1, .int .u32 0, .int .i32 0, .pointer none, c10_, c11_, c12_, c13_, c14_, c15_, c16_, c17_, c18_, c19_, c20_, c21_, c22_, c23_, c24_, c25_, c26_, c27_, c28_, c29_, c30_, c31_, c32_, c33_, c34_, c35_] 89, .blk fb_ #[.pointer (some ⟨b_, 5, none⟩)] 208, .blk fa_ #[.int .i64 1] 3] := H.store 0 rfl 6 (.int .i32 1)
 refine y_callL hf hv ((on_do_of b_ 5 (.pointer (some ⟨fa_, 0, none⟩)) (.pointer (some ⟨fb_, 0, none⟩)) w (fun w' => ∃ b5, ∃ b6, St X w0 w' [.blk b_ #[c0_, c1_, c2_, c3_, c4_, .int .u32 0, .int .i32 1, .int .u32 0, .int .i32 1, .pointer (some ⟨b6, 0, none⟩), c10_, c11_, c12_, c13_, c14_, c15_, c16_, c17_, c18_, c19_, c20_, c21_, c22_, c23_, c24_, c25_, c26_, c27_, c28_, c29_, c30_, c31_, c32_, c33_, c34_, c35_] 89, .blk fb_ #[.pointer (some ⟨b_, 5, none⟩)] 208, .blk fa_ #[.int .i64 1] 3, .blk b5 tabOff.toArray 237, .blk b6 #[.iface 146 (.agg #[.pointer (some ⟨b5, 0, none⟩)]), .int .i64 1] 150]) (blk_cell hb rfl) (blk_cell hb rfl) (blk_frozen hb) (blk_frozen hb) (of1_in H1) ?_).mono ?_)
 · rintro w' ⟨b5, b6, K⟩
   have hk := K.get 0 rfl
   exact ⟨blk_cell hk rfl, blk_cell hk rfl, blk_frozen hk, blk_frozen hk⟩
 · rintro _ w' ⟨rfl, w1, ⟨b5, b6, K⟩, rfl⟩
   have K1 := K.drew
   have K2 := K1.store 0 rfl 5 (.int .u32 1)
   exact ⟨_, rfl, h b5 b6 _ (K2.store 0 rfl 6 (.int .i32 0))⟩
set_option maxRecDepth 100000 in
set_option maxHeartbeats 4000000 in
theorem of1_new {w0 : World} {b_ : Nat} {c0_ c1_ c2_ c3_ c4_ c10_ c11_ c12_ c13_ c14_ c15_ c16_ c17_ c18_ c19_ c20_ c21_ c22_ c23_ c24_ c25_ c26_ c27_ c28_ c29_ c30_ c31_ c32_ c33_ c34_ c35_ : Value} (h : (Rs.blk b_ #[c0_, c1_, c2_, c3_, c4_, .int .u32 0, .int .i32 0, .int .u32 0, .int .i32 0, .pointer none, c10_, c11_, c12_, c13_, c14_, c15_, c16_, c17_, c18_, c19_, c20_, c21_, c22_, c23_, c24_, c25_, c26_, c27_, c28_, c29_, c30_, c31_, c32_, c33_, c34_, c35_] 89).inv w0) :
   Calls Tryz.prog 71 #[.pointer (some ⟨b_, 5, none⟩), .int .i64 1] w0 fun e w' => ∃ b3, ∃ b4, e = .returned (.pointer (some ⟨b4, 0, none⟩)) ∧ St (Rs.blk b_ #[] 89).fp w0 w' [.blk b_ #[c0_, c1_, c2_, c3_, c4_, .int .u32 1, .int .i32 0, .int .u32 0, .int .i32 1, .pointer (some ⟨b4, 0, none⟩), c10_, c11_, c12_, c13_, c14_, c15_, c16_, c17_, c18_, c19_, c20_, c21_, c22_, c23_, c24_, c25_, c26_, c27_, c28_, c29_, c30_, c31_, c32_, c33_, c34_, c35_] 89, .blk b3 tabOff.toArray 237, .blk b4 #[.iface 146 (.agg #[.pointer (some ⟨b3, 0, none⟩)]), .int .i64 1] 150] := by
 have H : St (Rs.blk b_ #[] 89).fp w0 w0 [.blk b_ #[c0_, c1_, c2_, c3_, c4_, .int .u32 0, .int .i32 0, .int .u32 0, .int .i32 0, .pointer none, c10_, c11_, c12_, c13_, c14_, c15_, c16_, c17_, c18_, c19_, c20_, c21_, c22_, c23_, c24_, c25_, c26_, c27_, c28_, c29_, c30_, c31_, c32_, c33_, c34_, c35_] 89] := St.start h
 refine calls_of_wc (N := 14) (args := [.pointer (some ⟨b_, 5, none⟩), .int .i64 1]) Tryz.func71 rfl rfl (by simp) ?_
 refine rg (e_ rfl (y_boxS (cs := #[.pointer (some ⟨b_, 5, none⟩)]) H rfl (fun b1 w H => (e_ rfl (y_boxS (cs := #[.int .i64 1]) H rfl (fun b2 w H => (v_ rfl (sg (.pointer none) rfl) (nl (rg (v_ rfl (r_load o_sc_208 rfl (blk_cell (H.get 1 rfl) rfl)) (v_ rfl (r_nilck rfl) (v_ rfl (r_faddr o_fa_81_0 rfl) (v_ rfl (r_mkf [.pointer (some ⟨b2, 0, none⟩), .pointer (some ⟨b1, 0, none⟩)] rfl) (e_ rfl (y_do1 H o_en_123 rfl (fun b3 b4 w H => (nl (rg (v_ rfl (r_load o_sc_208 rfl (blk_cell (H.get 1 rfl) rfl)) (v_ rfl (r_nilck rfl) (v_ rfl (r_faddr o_fa_81_2 rfl) (v_ rfl (r_load o_sc_79 rfl (blk_cell (H.get 0 rfl) rfl)) (v_ rfl (sg (.pointer (some ⟨b4, 0, none⟩)) rfl) (nl (wc_ret ?_)))))))))))))))))))))))))
 exact ⟨.inl rfl, _, tk0 rfl ⟨resN rfl (rv_t rv_nil), _, _, rfl, H.sel [0, 3, 4] rfl rfl⟩⟩
set_option maxRecDepth 100000 in
set_option maxHeartbeats 4000000 in
theorem of1_old {w0 : World} {b_ p_ : Nat} {c0_ c1_ c2_ c3_ c4_ c10_ c11_ c12_ c13_ c14_ c15_ c16_ c17_ c18_ c19_ c20_ c21_ c22_ c23_ c24_ c25_ c26_ c27_ c28_ c29_ c30_ c31_ c32_ c33_ c34_ c35_ : Value} (h : (Rs.blk b_ #[c0_, c1_, c2_, c3_, c4_, .int .u32 1, .int .i32 0, .int .u32 0, .int .i32 1, (.pointer (some ⟨p_, 0, none⟩)), c10_, c11_, c12_, c13_, c14_, c15_, c16_, c17_, c18_, c19_, c20_, c21_, c22_, c23_, c24_, c25_, c26_, c27_, c28_, c29_, c30_, c31_, c32_, c33_, c34_, c35_] 89).inv w0) :
   Calls Tryz.prog 71 #[.pointer (some ⟨b_, 5, none⟩), .int .i64 1] w0 fun e w' => e = .returned ((.pointer (some ⟨p_, 0, none⟩))) ∧ St (Rs.blk b_ #[] 89).fp w0 w' [.blk b_ #[c0_, c1_, c2_, c3_, c4_, .int .u32 1, .int .i32 0, .int .u32 0, .int .i32 1, (.pointer (some ⟨p_, 0, none⟩)), c10_, c11_, c12_, c13_, c14_, c15_, c16_, c17_, c18_, c19_, c20_, c21_, c22_, c23_, c24_, c25_, c26_, c27_, c28_, c29_, c30_, c31_, c32_, c33_, c34_, c35_] 89] := by
 have H : St (Rs.blk b_ #[] 89).fp w0 w0 [.blk b_ #[c0_, c1_, c2_, c3_, c4_, .int .u32 1, .int .i32 0, .int .u32 0, .int .i32 1, (.pointer (some ⟨p_, 0, none⟩)), c10_, c11_, c12_, c13_, c14_, c15_, c16_, c17_, c18_, c19_, c20_, c21_, c22_, c23_, c24_, c25_, c26_, c27_, c28_, c29_, c30_, c31_, c32_, c33_, c34_, c35_] 89] := St.start h
 refine calls_of_wc (N := 14) (args := [.pointer (some ⟨b_, 5, none⟩), .int .i64 1]) Tryz.func71 rfl rfl (by simp) ?_
 refine rg (e_ rfl (y_boxS (cs := #[.pointer (some ⟨b_, 5, none⟩)]) H rfl (fun b1 w H => (e_ rfl (y_boxS (cs := #[.int .i64 1]) H rfl (fun b2 w H => (v_ rfl (sg (.pointer none) rfl) (nl (rg (v_ rfl (r_load o_sc_208 rfl (blk_cell (H.get 1 rfl) rfl)) (v_ rfl (r_nilck rfl) (v_ rfl (r_faddr o_fa_81_0 rfl) (v_ rfl (r_mkf [.pointer (some ⟨b2, 0, none⟩), .pointer (some ⟨b1, 0, none⟩)] rfl) (e_ rfl (y_done (o := 5) H 0 rfl rfl o_en_123 rfl (fun w H => (nl (rg (v_ rfl (r_load o_sc_208 rfl (blk_cell (H.get 1 rfl) rfl)) (v_ rfl (r_nilck rfl) (v_ rfl (r_faddr o_fa_81_2 rfl) (v_ rfl (r_load o_sc_79 rfl (blk_cell (H.get 0 rfl) rfl)) (v_ rfl (sg ((.pointer (some ⟨p_, 0, none⟩))) rfl) (nl (wc_ret ?_)))))))))))))))))))))))))
 exact ⟨.inl rfl, _, tk0 rfl ⟨resN rfl (rv_t rv_nil), rfl, H.sel [0] rfl rfl⟩⟩
set_option maxRecDepth 100000 in
set_option maxHeartbeats 4000000 in
theorem of2_in {w0 w : World} {X : Nat → Prop} {b_ fa_ fb_ : Nat} {c0_ c1_ c2_ c3_ c4_ c5_ c6_ c7_ c8_ c9_ c15_ c16_ c17_ c18_ c19_ c20_ c21_ c22_ c23_ c24_ c25_ c26_ c27_ c28_ c29_ c30_ c31_ c32_ c33_ c34_ c35_ : Value} (H : St X w0 w [.blk b_ #[c0_, c1_, c2_, c3_, c4_, c5_, c6_, c7_, c8_, c9_, .int .u32 0, .int .i32 1, .int .u32 0, .int .i32 0, .pointer none, c15_, c16_, c17_, c18_, c19_, c20_, c21_, c22_, c23_, c24_, c25_, c26_, c27_, c28_, c29_, c30_, c31_, c32_, c33_, c34_, c35_] 89, .blk fb_ #[.pointer (some ⟨b_, 10, none⟩)] 208, .blk fa_ #[.int .i64 2] 3]) :
   Calls Tryz.prog 124 #[.pointer (some ⟨fa_, 0, none⟩), .pointer (some ⟨fb_, 0, none⟩)] w fun e w' => e = .returned (.tuple #[]) ∧ ∃ b2, St X w0 w' [.blk b_ #[c0_, c1_, c2_, c3_, c4_, c5_, c6_, c7_, c8_, c9_, .int .u32 0, .int .i32 1, .int .u32 0, .int .i32 1, .pointer (some ⟨b2, 0, none⟩), c15_, c16_, c17_, c18_, c19_, c20_, c21_, c22_, c23_, c24_, c25_, c26_, c27_, c28_, c29_, c30_, c31_, c32_, c33_, c34_, c35_] 89, .blk fb_ #[.pointer (some ⟨b_, 10, none⟩)] 208, .blk fa_ #[.int .i64 2] 3, .blk b2 #[.iface 151 (.agg #[]), .int .i64 2] 150] := by
 refine calls_of_wc (N := 11) (args := [.pointer (some ⟨fa_, 0, none⟩), .pointer (some ⟨fb_, 0, none⟩)]) Tryz.func124 rfl rfl (by simp) ?_
 refine wc_seq (wc_drawnS (ds := [5]) o_mo H rfl rfl ?_)
 have H := H.drew
 refine wa_take (i := 0) (l' := #[true, false, false, false, false, false]) rfl rfl rfl (by kernel_rfl) H (fun w H => (r_load o_sc_208 rfl (blk_cell (H.get 1 rfl) rfl))) (wa_take (i := 1) (l' := #[true, true, false, false, false, false]) rfl rfl rfl (by kernel_rfl) H (fun w H => (r_load o_sc_3 rfl (blk_cell (H.get 2 rfl) rfl))) (wa_one (i := 2) (l' := #[true, true, true, false, false, false]) rfl rfl rfl (by kernel_rfl) (y_in 26 [.int .i64 2] o_en_48 Tryz.func48 rfl rfl rfl rfl (rg (v_ rfl (sg (.pointer none) rfl) (nl (wc_seq (rg (v_ rfl (mv (.int .i64 2) rfl) (nl (wc_block (rg (v_ rfl (rv_eq (v' := .bool false) (r_eql rfl rfl) rfl) (v_ rfl (sg (.bool false) rfl) (nl (wc_condF rfl (rg (v_ rfl (rv_eq (v' := .bool true) (r_eql rfl rfl) rfl) (v_ rfl (sg (.bool true) rfl) (nl (wc_condT rfl (rg (v_ rfl (r_build (cs := []) o_bd_151 rfl) (v_ rfl (r_mkIf Tryz.underlying151 rfl) (v_ rfl (mv (.int .i64 2) rfl) (v_ rfl (r_build (cs := [.iface 151 (.agg #[]), .int .i64 2]) o_bd_150 rfl) (e_ rfl (y_boxS (cs := #[.iface 151 (.agg #[]), .int .i64 2]) H rfl (fun b2 w H => (v_ rfl (sg (.pointer (some ⟨b2, 0, none⟩)) rfl) (nl (wc_ret ((r_bk (r_thn ⟨.inl rfl, .pointer (some ⟨b2, 0, none⟩), tk0 rfl ⟨resM rfl (rv_t rv_nil) rfl, (⟨fun _ => H.sel [0, 1, 2] rfl rfl, (wa_oneV (i := 3) (l' := #[true, true, true, true, false, false]) rfl rfl rfl (by kernel_rfl) ((H.sel [0, 1, 2] rfl rfl)) (r_nilck rfl) (wa_take (i := 4) (l' := #[true, true, true, true, true, false]) rfl rfl rfl (by kernel_rfl) (H.sel [0, 1, 2] rfl rfl) (fun w H => (r_faddr o_fa_81_2 rfl)) (wa_one (i := 5) (l' := #[true, true, true, true, true, true]) rfl rfl rfl (by kernel_rfl) (y_storeB o_sz_79 H 0 rfl rfl rfl rfl rfl (fun w H => ⟨fun h => (h (by decide)).elim, (wa_done (by kernel_rfl) (n_thn (wc_region (v_ rfl (r_load o_sc_208 rfl (blk_cell (H.get 1 rfl) rfl)) (v_ rfl (r_nilck rfl) (v_ rfl (r_faddr o_fa_81_1 rfl) ?_))))))⟩)))))⟩)⟩⟩)))))))))))))))))))))))))))))))))))
 refine e_ rfl (y_addB H 0 rfl rfl o_en_125 rfl rfl (fun w H => (wl_nil ?_)))
 exact ⟨.inr rfl, _, tk0 rfl ⟨resN rfl rv_nil, rfl, _, H⟩⟩
set_option maxRecDepth 100000 in
set_option maxHeartbeats 4000000 in
theorem y_do2 {ρ : Option Nat} {N : Nat} {t : Fr} {w0 w : World} {X : Nat → Prop} {R : Value → World → Prop} {d : Option Nat} {ty : TypeId} {ps : String} {af : Array Edge} {g : Option (Nat × Bool)} {xs : Array Operand} {ats : Array TypeId} {b_ fa_ fb_ : Nat} {c0_ c1_ c2_ c3_ c4_ c5_ c6_ c7_ c8_ c9_ c15_ c16_ c17_ c18_ c19_ c20_ c21_ c22_ c23_ c24_ c25_ c26_ c27_ c28_ c29_ c30_ c31_ c32_ c33_ c34_ c35_ : Value} (H : St X w0 w [.blk b_ #[c0_, c1_, c2_, c3_, c4_, c5_, c6_, c7_, c8_, c9_, .int .u32 0, .int .i32 0, .int .u32 0, .int .i32 0, .pointer none, c15_, c16_, c17_, c18_, c19_, c20_, c21_, c22_, c23_, c24_, c25_, c26_, c27_, c28_, c29_, c30_, c31_, c32_, c33_, c34_, c35_] 89, .blk fb_ #[.pointer (some ⟨b_, 10, none⟩)] 208, .blk fa_ #[.int .i64 2] 3])
   (hf : En Tryz.prog 123) (hv : xs.toList.map (ev t) = [.pointer (some ⟨b_, 10, none⟩), .func (.func 124) #[] #[.pointer (some ⟨fa_, 0, none⟩), .pointer (some ⟨fb_, 0, none⟩)]])
   (h : ∀ b2 w', St X w0 w' [.blk b_ #[c0_, c1_, c2_, c3_, c4_, c5_, c6_, c7_, c8_, c9_, .int .u32 1, .int .i32 0, .int .u32 0, .int .i32 1, .pointer (some ⟨b2, 0, none⟩), c15_, c16_, c17_, c18_, c19_, c20_, c21_, c22_, c23_, c24_, c25_, c26_, c27_, c28_, c29_, c30_, c31_, c32_, c33_, c34_, c35_] 89, .blk fb_ #[.pointer (some ⟨b_, 10, none⟩)] 208, .blk fa_ #[.int .i64 2] 3, .blk b2 #[.iface 151 (.agg #[]), .int .i64 2] 150] → R (.tuple #[]) w') : Yd Tryz.prog ρ N ⟨d, .call ⟨.value (.func 123), xs, ats⟩, ty, ps, af, g⟩ t w R := by
 have hb := H.get 0 rfl
 have H1 : St X w0 (w.setCell ⟨b_, 11, none⟩ (.int .i32 1)) [.blk b_ #[c0_, c1_, c2_, c3_, c4_, c5_, c6_, c7_, c8_, c9_, .int .u32 0, .int .i32 1, .int .u32 0, .int .i32 0, .pointer none, c15_, c16_, c17_, c18_, c19_, c20_, c21_, c22_, c23_, c24_, c25_, c26_, c27_, c28_, c29_, c30_, c31_, c32_, c33_, c34_, c35_] 89, .blk fb_ #[.pointer (some ⟨b_, 10, none⟩)] 208, .blk fa_ #[.int .i64 2] 3] := H.store 0 rfl 11 (.int .i32 1)
 refine y_callL hf hv ((on_do_of b_ 10 (.pointer (some ⟨fa_, 0, none⟩)) (.pointer (some ⟨fb_, 0, none⟩)) w (fun w' => ∃ b2, St X w0 w' [.blk b_ #[c0_, c1_, c2_, c3_, c4_, c5_, c6_, c7_, c8_, c9_, .int .u32 0, .int .i32 1, .int .u32 0, .int .i32 1, .pointer (some ⟨b2, 0, none⟩), c15_, c16_, c17_, c18_, c19_, c20_, c21_, c22_, c23_, c24_, c25_, c26_, c27_, c28_, c29_, c30_, c31_, c32_, c33_, c34_, c35_] 89, .blk fb_ #[.pointer (some ⟨b_, 10, none⟩)] 208, .blk fa_ #[.int .i64 2] 3, .blk b2 #[.iface 151 (.agg #[]), .int .i64 2] 150]) (blk_cell hb rfl) (blk_cell hb rfl) (blk_frozen hb) (blk_frozen hb) (of2_in H1) ?_).mono ?_)
 · rintro w' ⟨b2, K⟩
   have hk := K.get 0 rfl
   exact ⟨blk_cell hk rfl, blk_cell hk rfl, blk_frozen hk, blk_frozen hk⟩
 · rintro _ w' ⟨rfl, w1, ⟨b2, K⟩, rfl⟩
   have K1 := K.drew
   have K2 := K1.store 0 rfl 10 (.int .u32 1)
   exact ⟨_, rfl, h b2 _ (K2.store 0 rfl 11 (.int .i32 0))⟩
set_option maxRecDepth 100000 in
set_option maxHeartbeats 4000000 in
theorem of2_new {w0 : World} {b_ : Nat} {c0_ c1_ c2_ c3_ c4_ c5_ c6_ c7_ c8_ c9_ c15_ c16_ c17_ c18_ c19_ c20_ c21_ c22_ c23_ c24_ c25_ c26_ c27_ c28_ c29_ c30_ c31_ c32_ c33_ c34_ c35_ : Value} (h : (Rs.blk b_ #[c0_, c1_, c2_, c3_, c4_, c5_, c6_, c7_, c8_, c9_, .int .u32 0, .int .i32 0, .int .u32 0, .int .i32 0, .pointer none, c15_, c16_, c17_, c18_, c19_, c20_, c21_, c22_, c23_, c24_, c25_, c26_, c27_, c28_, c29_, c30_, c31_, c32_, c33_, c34_, c35_] 89).inv w0) :
   Calls Tryz.prog 71 #[.pointer (some ⟨b_, 10, none⟩), .int .i64 2] w0 fun e w' => ∃ b3, e = .returned (.pointer (some ⟨b3, 0, none⟩)) ∧ St (Rs.blk b_ #[] 89).fp w0 w' [.blk b_ #[c0_, c1_, c2_, c3_, c4_, c5_, c6_, c7_, c8_, c9_, .int .u32 1, .int .i32 0, .int .u32 0, .int .i32 1, .pointer (some ⟨b3, 0, none⟩), c15_, c16_, c17_, c18_, c19_, c20_, c21_, c22_, c23_, c24_, c25_, c26_, c27_, c28_, c29_, c30_, c31_, c32_, c33_, c34_, c35_] 89, .blk b3 #[.iface 151 (.agg #[]), .int .i64 2] 150] := by
 have H : St (Rs.blk b_ #[] 89).fp w0 w0 [.blk b_ #[c0_, c1_, c2_, c3_, c4_, c5_, c6_, c7_, c8_, c9_, .int .u32 0, .int .i32 0, .int .u32 0, .int .i32 0, .pointer none, c15_, c16_, c17_, c18_, c19_, c20_, c21_, c22_, c23_, c24_, c25_, c26_, c27_, c28_, c29_, c30_, c31_, c32_, c33_, c34_, c35_] 89] := St.start h
 refine calls_of_wc (N := 14) (args := [.pointer (some ⟨b_, 10, none⟩), .int .i64 2]) Tryz.func71 rfl rfl (by simp) ?_
 refine rg (e_ rfl (y_boxS (cs := #[.pointer (some ⟨b_, 10, none⟩)]) H rfl (fun b1 w H => (e_ rfl (y_boxS (cs := #[.int .i64 2]) H rfl (fun b2 w H => (v_ rfl (sg (.pointer none) rfl) (nl (rg (v_ rfl (r_load o_sc_208 rfl (blk_cell (H.get 1 rfl) rfl)) (v_ rfl (r_nilck rfl) (v_ rfl (r_faddr o_fa_81_0 rfl) (v_ rfl (r_mkf [.pointer (some ⟨b2, 0, none⟩), .pointer (some ⟨b1, 0, none⟩)] rfl) (e_ rfl (y_do2 H o_en_123 rfl (fun b3 w H => (nl (rg (v_ rfl (r_load o_sc_208 rfl (blk_cell (H.get 1 rfl) rfl)) (v_ rfl (r_nilck rfl) (v_ rfl (r_faddr o_fa_81_2 rfl) (v_ rfl (r_load o_sc_79 rfl (blk_cell (H.get 0 rfl) rfl)) (v_ rfl (sg (.pointer (some ⟨b3, 0, none⟩)) rfl) (nl (wc_ret ?_)))))))))))))))))))))))))
 exact ⟨.inl rfl, _, tk0 rfl ⟨resN rfl (rv_t rv_nil), _, rfl, H.sel [0, 3] rfl rfl⟩⟩
set_option maxRecDepth 100000 in
set_option maxHeartbeats 4000000 in
theorem of2_old {w0 : World} {b_ p_ : Nat} {c0_ c1_ c2_ c3_ c4_ c5_ c6_ c7_ c8_ c9_ c15_ c16_ c17_ c18_ c19_ c20_ c21_ c22_ c23_ c24_ c25_ c26_ c27_ c28_ c29_ c30_ c31_ c32_ c33_ c34_ c35_ : Value} (h : (Rs.blk b_ #[c0_, c1_, c2_, c3_, c4_, c5_, c6_, c7_, c8_, c9_, .int .u32 1, .int .i32 0, .int .u32 0, .int .i32 1, (.pointer (some ⟨p_, 0, none⟩)), c15_, c16_, c17_, c18_, c19_, c20_, c21_, c22_, c23_, c24_, c25_, c26_, c27_, c28_, c29_, c30_, c31_, c32_, c33_, c34_, c35_] 89).inv w0) :
   Calls Tryz.prog 71 #[.pointer (some ⟨b_, 10, none⟩), .int .i64 2] w0 fun e w' => e = .returned ((.pointer (some ⟨p_, 0, none⟩))) ∧ St (Rs.blk b_ #[] 89).fp w0 w' [.blk b_ #[c0_, c1_, c2_, c3_, c4_, c5_, c6_, c7_, c8_, c9_, .int .u32 1, .int .i32 0, .int .u32 0, .int .i32 1, (.pointer (some ⟨p_, 0, none⟩)), c15_, c16_, c17_, c18_, c19_, c20_, c21_, c22_, c23_, c24_, c25_, c26_, c27_, c28_, c29_, c30_, c31_, c32_, c33_, c34_, c35_] 89] := by
 have H : St (Rs.blk b_ #[] 89).fp w0 w0 [.blk b_ #[c0_, c1_, c2_, c3_, c4_, c5_, c6_, c7_, c8_, c9_, .int .u32 1, .int .i32 0, .int .u32 0, .int .i32 1, (.pointer (some ⟨p_, 0, none⟩)), c15_, c16_, c17_, c18_, c19_, c20_, c21_, c22_, c23_, c24_, c25_, c26_, c27_, c28_, c29_, c30_, c31_, c32_, c33_, c34_, c35_] 89] := St.start h
 refine calls_of_wc (N := 14) (args := [.pointer (some ⟨b_, 10, none⟩), .int .i64 2]) Tryz.func71 rfl rfl (by simp) ?_
 refine rg (e_ rfl (y_boxS (cs := #[.pointer (some ⟨b_, 10, none⟩)]) H rfl (fun b1 w H => (e_ rfl (y_boxS (cs := #[.int .i64 2]) H rfl (fun b2 w H => (v_ rfl (sg (.pointer none) rfl) (nl (rg (v_ rfl (r_load o_sc_208 rfl (blk_cell (H.get 1 rfl) rfl)) (v_ rfl (r_nilck rfl) (v_ rfl (r_faddr o_fa_81_0 rfl) (v_ rfl (r_mkf [.pointer (some ⟨b2, 0, none⟩), .pointer (some ⟨b1, 0, none⟩)] rfl) (e_ rfl (y_done (o := 10) H 0 rfl rfl o_en_123 rfl (fun w H => (nl (rg (v_ rfl (r_load o_sc_208 rfl (blk_cell (H.get 1 rfl) rfl)) (v_ rfl (r_nilck rfl) (v_ rfl (r_faddr o_fa_81_2 rfl) (v_ rfl (r_load o_sc_79 rfl (blk_cell (H.get 0 rfl) rfl)) (v_ rfl (sg ((.pointer (some ⟨p_, 0, none⟩))) rfl) (nl (wc_ret ?_)))))))))))))))))))))))))
 exact ⟨.inl rfl, _, tk0 rfl ⟨resN rfl (rv_t rv_nil), rfl, H.sel [0] rfl rfl⟩⟩
end Go.Proofs.YtkndgkbgbmhjoaaGreatDoor.Gw
