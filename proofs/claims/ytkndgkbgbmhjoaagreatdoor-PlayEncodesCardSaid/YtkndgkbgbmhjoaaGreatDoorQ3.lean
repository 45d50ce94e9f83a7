/- The card of the law that what a desk encodes is read back from what it tells: a part of its proof. The conditions are those of the statement. -/
import Derived.Test.YtkndgkbgbmhjoaaGreatDoorQ2
import Derived.Test.YtkndgkbgbmhjoaaGreatDoorProg
namespace Go.Proofs.YtkndgkbgbmhjoaaGreatDoor.Gw
open Go Go.RowKit
set_option linter.unusedSimpArgs false
set_option linter.unusedVariables false
set_option linter.unusedSectionVars false
def dtab : List Int := [0, 1, 56, 2, 57, 49, 28, 3, 61, 58, 42, 50, 38, 29, 17, 4, 62, 47, 59, 36, 45, 43, 51, 22, 53, 39, 33, 30, 24, 18, 12, 5, 63, 55, 48, 27, 60, 41, 37, 16, 46, 35, 44, 21, 52, 32, 23, 11, 54, 26, 40, 15, 34, 20, 31, 10, 25, 14, 19, 9, 13, 8, 7, 6]
class LibO where
 g : Option Obj
 p : Option Obj
 m : Option Obj
variable [LibO]
def Rs.gt : Rs where
 fp := fun x => x = 7
 inv := fun w => (∀ i x, dtab[i]? = some x → w.cell? ⟨7, i, none⟩ = some (.int .u8 x)) ∧ w.heap[7]? = LibO.g
 loc := fun w w' h ⟨hi, hg⟩ => ⟨fun i x hx => (World.cell?_of_block (w := w) (a := ⟨7, i, none⟩) (h 7 rfl)).trans (hi i x hx), (h 7 rfl).trans hg⟩
 bd := fun w h x e => by
   subst e
   have := h.1 0 0 rfl
   unfold World.cell? at this
   rcases Nat.lt_or_ge 7 w.heap.size with h' | h'
   · exact h'
   · rw [Array.getElem?_eq_none (by exact h')] at this; cases this
def lgT : List Nat := [0, 0, 1, 25, 2, 50, 26, 198, 3, 223, 51, 238, 27, 104, 199, 75, 4, 100, 224, 14, 52, 141, 239, 129, 28, 193, 105, 248, 200, 8, 76, 113, 5, 138, 101, 47, 225, 36, 15, 33, 53, 147, 142, 218, 240, 18, 130, 69, 29, 181, 194, 125, 106, 39, 249, 185, 201, 154, 9, 120, 77, 228, 114, 166, 6, 191, 139, 98, 102, 221, 48, 253, 226, 152, 37, 179, 16, 145, 34, 136, 54, 208, 148, 206, 143, 150, 219, 189, 241, 210, 19, 92, 131, 56, 70, 64, 30, 66, 182, 163, 195, 72, 126, 110, 107, 58, 40, 84, 250, 133, 186, 61, 202, 94, 155, 159, 10, 21, 121, 43, 78, 212, 229, 172, 115, 243, 167, 87, 7, 112, 192, 247, 140, 128, 99, 13, 103, 74, 222, 237, 49, 197, 254, 24, 227, 165, 153, 119, 38, 184, 180, 124, 17, 68, 146, 217, 35, 32, 137, 46, 55, 63, 209, 91, 149, 188, 207, 205, 144, 135, 151, 178, 220, 252, 190, 97, 242, 86, 211, 171, 20, 42, 93, 158, 132, 60, 57, 83, 71, 109, 65, 162, 31, 45, 67, 216, 183, 123, 164, 118, 196, 23, 73, 236, 127, 12, 111, 246, 108, 161, 59, 82, 41, 157, 85, 170, 251, 96, 134, 177, 187, 204, 62, 90, 203, 89, 95, 176, 156, 169, 160, 81, 11, 245, 22, 235, 122, 117, 44, 215, 79, 174, 213, 233, 230, 231, 173, 232, 116, 214, 244, 234, 168, 80, 88, 175]
def lgN (b : Nat) : Nat := lgT.getD b 0
def exps : List Int := (List.range 510).map fun n => (gpN 2 n : Nat)
def logs : List Int := (List.range 256).map fun b => (lgN b : Nat)
def tabOff : List Value := [.int .u32 0, .int .i32 0, .int .u32 0, .int .i32 0] ++ List.replicate 766 (.int .u8 0)
def tabOn : List Value := [.int .u32 1, .int .i32 0, .int .u32 0, .int .i32 1] ++ (exps ++ logs).map (Value.int .u8)
def tabC (m : Bool) : List Value := bif m then tabOn else tabOff
def Rs.tab (t : Nat) (m : Bool) : Rs where
 fp := fun x => x = t ∨ x = 7
 inv := fun w => Rs.gt.inv w ∧ ¬ t = 7 ∧ (Rs.blk t (tabC m).toArray 237).inv w
 loc := fun w w' h ⟨h1, h2, h3⟩ => ⟨Rs.gt.loc w w' (fun b hb => h b (.inr hb)) h1, h2, (Rs.blk t (tabC m).toArray 237).loc w w' (fun b hb => h b (.inl hb)) h3⟩
 bd := fun w ⟨h1, _, h3⟩ x hx => hx.elim (fun e => (Rs.blk t (tabC m).toArray 237).bd w h3 x e) (fun e => Rs.gt.bd w h1 x e)
theorem gt_cell {w : World} {i : Int} (h : Rs.gt.inv w) (h0 : 0 ≤ i) (h1 : i < 64) : w.cell? ⟨7, 0 + i.toNat * 1, none⟩ = some (.int .u8 (at_ 0 dtab i)) := by
 have := h.1 i.toNat _ (at_get 0 (l := dtab) h0 h1)
 rw [Nat.zero_add, Nat.mul_one]; exact this
omit [LibO] in
theorem exps_len : exps.length = 510 := by simp [exps]
omit [LibO] in
theorem logs_len : logs.length = 256 := by simp [logs]
theorem tab_exps {w : World} {t : Nat} {i : Int} (h : (Rs.tab t true).inv w) (h0 : 0 ≤ i) (h1 : i < 510) : w.cell? ⟨t, 4 + i.toNat * 1, none⟩ = some (.int .u8 (at_ 0 exps i)) := by
 refine blk_cell h.2.2 ?_
 have hg := at_get 0 (l := exps) h0 (by rw [exps_len]; exact h1)
 show (tabOn.toArray)[4 + i.toNat * 1]? = _
 rw [Nat.mul_one, List.getElem?_toArray, tabOn, List.getElem?_append_right (by simp)]
 rw [List.map_append, List.getElem?_append_left (by simp [exps_len]; omega)]
 simp [hg]
theorem tab_logs {w : World} {t : Nat} {i : Int} (h : (Rs.tab t true).inv w) (h0 : 0 ≤ i) (h1 : i < 256) : w.cell? ⟨t, 514 + i.toNat * 1, none⟩ = some (.int .u8 (at_ 0 logs i)) := by
 refine blk_cell h.2.2 ?_
 have hg := at_get 0 (l := logs) h0 (by rw [logs_len]; exact h1)
 show (tabOn.toArray)[514 + i.toNat * 1]? = _
 rw [Nat.mul_one, List.getElem?_toArray, tabOn, List.getElem?_append_right (by simp; omega)]
 rw [List.map_append, List.getElem?_append_right (by simp [exps_len]; omega)]
 have e : 514 + i.toNat - [Value.int .u32 1, .int .i32 0, .int .u32 0, .int .i32 1].length - (exps.map (Value.int .u8)).length = i.toNat := by simp [exps_len]; omega
 rw [e]; simp [hg]
structure FD where
 p : Nat
 k : Nat
 t : Nat
def fcT (f : FD) : Array Value := #[.iface 146 (.agg #[.pointer (some ⟨f.t, 0, none⟩)]), .int .i64 1]
def fcS : Array Value := #[.iface 151 (.agg #[]), .int .i64 2]
def Rs.fld (f : FD) : Rs where
 fp := fun x => x = f.p ∨ x = f.t ∨ x = 7
 inv := fun w => Rs.gt.inv w ∧ ¬ f.p = 7 ∧ ((f.k = 1 ∧ (Rs.blk f.p (fcT f) 150).inv w ∧ ¬ f.p = f.t ∧ ∃ m, (Rs.tab f.t m).inv w) ∨ (f.k = 2 ∧ (Rs.blk f.p fcS 150).inv w ∧ f.t = f.p))
 loc := fun w w' h ⟨h1, h2, h3⟩ => ⟨Rs.gt.loc w w' (fun b hb => h b (.inr (.inr hb))) h1, h2, h3.imp
   (fun ⟨a, b, c, m, e⟩ => ⟨a, (Rs.blk f.p (fcT f) 150).loc w w' (fun x hx => h x (.inl hx)) b, c, m, (Rs.tab f.t m).loc w w' (fun x hx => h x (.inr hx)) e⟩)
   (fun ⟨a, b, c⟩ => ⟨a, (Rs.blk f.p fcS 150).loc w w' (fun x hx => h x (.inl hx)) b, c⟩)⟩
 bd := fun w ⟨h1, h2, h3⟩ x hx => by
   rcases hx with hx | hx | hx
   · rcases h3 with ⟨_, b, _⟩ | ⟨_, b, _⟩
     · exact (Rs.blk f.p (fcT f) 150).bd w b x hx
     · exact (Rs.blk f.p fcS 150).bd w b x hx
   · rcases h3 with ⟨_, _, _, m, e⟩ | ⟨_, b, c⟩
     · exact (Rs.tab f.t m).bd w e x (.inl hx)
     · exact (Rs.blk f.p fcS 150).bd w b x (hx.trans c)
   · exact Rs.gt.bd w h1 x hx
def byts (l : List Int) : Bool := l.all byt
def field_Field_Mul.f (a b : Int) : Option Int := grd (byt a && byt b) (some (gm a b))
def field_Field_Inv.f (a : Int) : Option (Int × Bool) := grd (byt a) (some (if a = 0 then (0, false) else ((giN a.toNat : Nat), true)))
def gpw (a n : Int) : Int := if a = 0 ∧ ¬ n = 0 then 0 else ((gpN a.toNat (n % 255).toNat : Nat) : Int)
def field_Field_Pow.f (a n : Int) : Option Int := grd (byt a && decide (-9223372036854775808 ≤ n ∧ n ≤ 9223372036854775807)) (some (gpw a n))
def field_Field_Pairs.f (l m : List Int) : Option (List Int) := grd (byts l && byts m && decide (l.length ≤ 140737488355328)) (some (List.zipWith gm l m))
end Go.Proofs.YtkndgkbgbmhjoaaGreatDoor.Gw
namespace Go.Proofs.YtkndgkbgbmhjoaaGreatDoor.Gw
open Go Go.RowKit
set_option linter.unusedSimpArgs false
set_option linter.unusedVariables false
def Enc.str : Enc ByteArray := ⟨1, fun a => [.string a], fun _ => rfl, fun a v h => by simp at h; subst h; rfl⟩
def cat (x y : ByteArray) : ByteArray := ⟨⟨x.data.toList ++ y.data.toList⟩⟩
def ext (s : ByteArray) (lo hi : Int) : ByteArray := ⟨⟨(s.data.toList.take hi.toNat).drop lo.toNat⟩⟩
theorem cat_eq (x y : ByteArray) : x ++ y = cat x y := by
 apply ByteArray.ext
 rw [ByteArray.data_append]
 apply Array.ext'
 simp [cat]
theorem ext_eq (s : ByteArray) (a b : Nat) : s.extract a b = ext s a b := by
 apply ByteArray.ext
 rw [ByteArray.data_extract]
 apply Array.ext'
 simp only [ext, Int.toNat_natCast, Array.toList_extract, List.extract_eq_take_drop, List.drop_take]
def dcC (s : ByteArray) (p : Nat) : Int := ((Utf8.decode s p).1 : Nat)
def dcW (s : ByteArray) (p : Nat) : Nat := (Utf8.decode s p).2
def Rs.itr (b : Nat) (s : ByteArray) (p : Nat) : Rs where
 fp := fun x => x = b
 inv := fun w => w.heap[b]? = some (.stringIter s p)
 loc := fun w w' h hi => (h b rfl).trans hi
 bd := fun w h x e => by subst e; exact (Array.getElem?_eq_some_iff.1 h).1
section
variable {P : Program} {ρ : Option Nat} {N : Nat} {Q : Exit → Fr → World → Prop} {t : Fr} {w w0 : World} {X : Nat → Prop} {L M : List Rs} {R : Value → World → Prop} {d : Option Nat} {ty T T' K E : TypeId} {ps : String} {af : Array Edge} {g : Option (Nat × Bool)} {x y z : Operand} {α : Type} {k : IntKind}
theorem updO_comm (t : Fr) {a b : Nat} (h : (a == b) = false) (u v : Value) : updO (updO t (some a) u) (some b) v = updO (updO t (some b) v) (some a) u := by
 have hne : ¬ a = b := by simpa using h
 funext i
 have nb : ∀ m n : Nat, m ≠ n → Nat.beq m n = false := fun m n h => by
   cases e : Nat.beq m n with
   | false => rfl
   | true => exact absurd (Nat.eq_of_beq_eq_true e) h
 have nr : ∀ m : Nat, Nat.beq m m = true := fun m => Nat.beq_refl m
 simp only [updO, upd]
 by_cases h1 : i = a
 · subst h1; rw [nb _ _ hne, nr]; rfl
 · by_cases h2 : i = b
   · subst h2; rw [nb _ _ h1, nr]; rfl
   · rw [nb _ _ h1, nb _ _ h2]; rfl
theorem wa_pair {ops : Array Oper} {S : World → Prop} {ds : List Nat} {n : Nat} {l li lj l' : Array Bool} {i j a b : Nat} {oi oj : Oper} {vi vj : Value} (hi : ops[i]? = some oi) (hj : ops[j]? = some oj) (gi : oi.guard = none) (gj : oj.guard = none) (di : oi.dst = some a) (dj : oj.dst = some b) (hab : (a == b) = false) (oki : ok N oi.dst = true) (okj : ok N oj.dst = true)
   (hli : l.setIfInBounds i true = li) (hlj : l.setIfInBounds j true = lj)
   (hc : ((Region.ready .any ops l == [i, j]) && (Region.ready .any ops li == [j]) && (Region.ready .any ops lj == [i]) && (li.setIfInBounds j true == l') && (lj.setIfInBounds i true == l')) = true) (hS : S w)
   (ri : (execOp (ev t) oi).run P w = .ok (.value vi) w) (ri' : (execOp (ev (updO t (some b) vj)) oi).run P w = .ok (.value vi) w) (rj : (execOp (ev t) oj).run P w = .ok (.value vj) w) (rj' : (execOp (ev (updO t (some a) vi)) oj).run P w = .ok (.value vj) w)
   (h : Wa P ρ N ops Q S ds n l' (updO (updO t (some a) vi) (some b) vj) w) : Wa P ρ N ops Q S ds (n + 2) l t w := by
 simp only [Bool.and_eq_true, beq_iff_eq] at hc
 obtain ⟨⟨⟨⟨h1, h2⟩, h3⟩, h4⟩, h5⟩ := hc
 have A1 : Wa P ρ N ops Q S ds (n + 1) li (updO t oi.dst vi) w :=
   wa_oneV (i := j) (l' := l') hj gj okj (by simp [h2, h4]) hS (by rw [di]; exact rj') (by rw [di, dj]; exact h)
 have A2 : Wa P ρ N ops Q S ds (n + 1) lj (updO t oj.dst vj) w :=
   wa_oneV (i := i) (l' := l') hi gi oki (by simp [h3, h5]) hS (by rw [dj]; exact ri') (by rw [di, dj, ← updO_comm t hab]; exact h)
 intro ac ha
 refine ⟨fun h0 => (by rw [h1] at h0; cases h0), fun q hq => ?_⟩
 rw [h1] at hq
 rcases List.mem_cons.1 hq with e | e
 · subst e
   unfold wpOpIn
   simp only [hi, Region.wanted, gi, if_true]
   refine (y_val (R := fun v w' => (q ∉ ds → S w') ∧ Wa P ρ N ops Q S ds (n + 1) li (updO t oi.dst v) w') ri ⟨fun _ => hS, A1⟩) ac ha _ _ fun v w' ⟨s, r⟩ => ⟨s, ?_⟩
   rw [hli]
   exact r _ (ha.put oki v)
 · rw [List.mem_singleton] at e
   subst e
   unfold wpOpIn
   simp only [hj, Region.wanted, gj, if_true]
   refine (y_val (R := fun v w' => (q ∉ ds → S w') ∧ Wa P ρ N ops Q S ds (n + 1) lj (updO t oj.dst v) w') rj ⟨fun _ => hS, A2⟩) ac ha _ _ fun v w' ⟨s, r⟩ => ⟨s, ?_⟩
   rw [hlj]
   exact r _ (ha.put okj v)
theorem r_idxe {κ : Kd α} {F : Nat → Prop} {l l' : List α} {v : Value} {E by_ : Nat} {zz : Value} {i : Int} (e : l'.length = l.length) (hT : Sl P T E κ.sz by_ zz) (h : Rd κ w F v l') (hx : ev t x = v) (hy : ev t y = .int k i) (h0 : 0 ≤ i) (h1 : i < l.length) :
   Rv P ⟨d, .indexAddr T x y, ty, ps, af, g⟩ t w (.pointer (adr v (i.toNat * κ.sz))) := r_idx hT h hx hy h0 (by omega)
theorem r_cat {a b : ByteArray} (hx : ev t x = .string a) (hy : ev t y = .string b) (hn : (a.size + b.size : Nat) ≤ 140737488355328) : Rv P ⟨d, .binOp .add T x y T', ty, ps, af, g⟩ t w (.string (cat a b)) := by
 have h1 : ¬ (IntKind.i64.max < ((a.size : Int) + (b.size : Int))) := by simp [IntKind.max, IntKind.bits, IntKind.signed]; omega
 have h2 : (Op.stringOp .add a b) = (pure (.string (cat a b)) : Sem Value) := by
   unfold Op.stringOp
   simp only [Int.natCast_add, gt_iff_lt, h1, if_false, cat_eq]
 unfold Rv
 simp only [execOp, hx, hy, binOp, eqGuard, h2]
 rfl
theorem r_seql {a b : ByteArray} (hx : ev t x = .string a) (hy : ev t y = .string b) : Rv P ⟨d, .binOp .eql T x y T', ty, ps, af, g⟩ t w (.bool (decide (a = b))) := by
 have h1 : (a.toList == b.toList) = decide (a = b) := by
   rw [← bb]; exact (beq_toListBytes a b).symm
 unfold Rv
 simp [execOp, hx, hy, go_sem, Op.stringOp, h1]
theorem r_sneq {a b : ByteArray} (hx : ev t x = .string a) (hy : ev t y = .string b) : Rv P ⟨d, .binOp .neq T x y T', ty, ps, af, g⟩ t w (.bool (!decide (a = b))) := by
 have h1 : (a.toList == b.toList) = decide (a = b) := by
   rw [← bb]; exact (beq_toListBytes a b).symm
 unfold Rv
 simp [execOp, hx, hy, go_sem, Op.stringOp, h1]
theorem r_sslc {s : ByteArray} {lo hi : Int} {k' : IntKind} (hT : P.underlying T = some .string) (hx : ev t x = .string s) (hy : ev t y = .int k lo) (hz : ev t z = .int k' hi) (h0 : 0 ≤ lo) (h1 : lo ≤ hi) (h2 : hi ≤ (s.size : Int)) :
   Rv P ⟨d, .slice T x (some y) (some z) none, ty, ps, af, g⟩ t w (.string (ext s lo hi)) := by
 have eh : (hi.toNat : Int) = hi := Int.toNat_of_nonneg (by omega)
 have el : (lo.toNat : Int) = lo := Int.toNat_of_nonneg h0
 have he := ext_eq s lo.toNat hi.toNat
 rw [eh, el] at he
 unfold Rv
 simp [execOp, hx, hy, hz, Instr.sliceAt, run_underlying hT, Instr.slice, Instr.sliceBounds, run_sliceBound, h0, h1, h2, eh, (by omega : 0 ≤ hi), he]
theorem y_range {s : ByteArray} (hT : P.underlying T = some .string) (H : St X w0 w L) (hx : ev t x = .string s) (h : ∀ b w', St X w0 w' (L ++ [.itr b s 0]) → R (.pointer (some ⟨b, 0, none⟩)) w') : Yd P ρ N ⟨d, .range T x, ty, ps, af, g⟩ t w R := by
 refine y_val (v := .pointer (some ⟨w.heap.size, 0, none⟩)) (w' := w.alloc (.stringIter s 0)) ?_ (h _ _ (H.new (.alloc _ _ _) ?_ (fun b e => by simp only [Rs.itr] at e; omega)))
 · simp [execOp, hx, Instr.range, run_underlying hT, Sem.run_bind]
 · show (w.heap.push _)[w.heap.size]? = _
   simp
theorem y_nextT {b p : Nat} {s : ByteArray} (H : St X w0 w L) (q : Nat) (hq : L[q]? = some (.itr b s p)) (hx : ev t x = .pointer (some ⟨b, 0, none⟩)) (hp : decide (p < s.size) = true) (h : ∀ w', St X w0 w' (L.set q (.itr b s (p + dcW s p))) → R (.tuple #[.bool true, .int .i64 (p : Int), .int .i32 (dcC s p)]) w') : Yd P ρ N ⟨d, .next x true, ty, ps, af, g⟩ t w R := by
 have hb : w.heap[b]? = some (.stringIter s p) := H.get q hq
 have hlt : p < s.size := by simpa using hp
 have hbl := (Array.getElem?_eq_some_iff.1 hb).1
 have hg : (getObj b).run P w = .ok (.stringIter s p) w := by simp [getObj, Sem.run, hb]
 have hs : ∀ o, (setObj b o).run P w = .ok () { w with heap := w.heap.setIfInBounds b o } := fun o => by simp [setObj, Sem.run, hb]
 refine y_val (v := .tuple #[.bool true, .int .i64 (p : Int), .int .i32 (dcC s p)]) (w' := { w with heap := w.heap.setIfInBounds b (.stringIter s (p + dcW s p)) }) ?_ (h _ (H.put q hq ⟨rfl, rfl, rfl, by simp, fun c _ hc => ?_⟩ ?_ (fun _ e => .inl e)))
 · simp [execOp, hx, Instr.next, Sem.run_bind, hg, Result.andThen, hlt, hs, dcW, dcC, goInt]
 · have : ¬ c = b := hc
   simp [Array.getElem?_setIfInBounds, show ¬ b = c from fun e => this e.symm]
 · show (w.heap.setIfInBounds b _)[b]? = _
   simp [hbl]
theorem y_nextF {b p : Nat} {s : ByteArray} (h0 : (Rs.itr b s p).inv w) (hx : ev t x = .pointer (some ⟨b, 0, none⟩)) (hp : decide (p < s.size) = false) : Rv P ⟨d, .next x true, ty, ps, af, g⟩ t w (.tuple #[.bool false]) := by
 have hb : w.heap[b]? = some (.stringIter s p) := h0
 have hlt : ¬ p < s.size := by simpa using hp
 have hg : (getObj b).run P w = .ok (.stringIter s p) w := by simp [getObj, Sem.run, hb]
 unfold Rv
 simp [execOp, hx, Instr.next, Sem.run_bind, hg, Result.andThen, hlt]
end
end Go.Proofs.YtkndgkbgbmhjoaaGreatDoor.Gw
