/- The card of the law that what a desk encodes is read back from what it tells: a part of its proof. The conditions are those of the statement. -/
import Derived.Test.YtkndgkbgbmhjoaaGreatDoorQ7
import Derived.Test.YtkndgkbgbmhjoaaGreatDoorQ5
namespace Go.Proofs.YtkndgkbgbmhjoaaGreatDoor.Gw
open Go Go.RowKit
set_option linter.unusedSimpArgs false
set_option linter.unusedVariables false
set_option linter.unusedSectionVars false
def expT : List Nat := (List.range 254).foldl (fun l _ => l ++ [x2 (l.getLastD 0)]) [1]
theorem gmN_two {a : Nat} (ha : a < 256) : gmN a 2 = x2 a := by
 have : gmN a (x2 1) = x2 (gmN a 1) := gmN_x2 ha (by decide)
 rw [gmN_one_r] at this; exact this
theorem gpN_two (n : Nat) : gpN 2 (n + 1) = x2 (gpN 2 n) := gmN_two (gpN_lt (by decide) n)
theorem expT_ok : ∀ n, n < 255 → gpN 2 n = expT.getD n 0 := by
 have h : (List.range 255).all (fun n => Nat.beq (lgT.getD (expT.getD n 0) 0) n && Nat.beq (expT.getD (n + 1) 1) (x2 (expT.getD n 0))) = true := by decide +kernel
 intro n
 induction n with
 | zero => intro _; show 1 = expT.getD 0 0; decide +kernel
 | succ n ih =>
   intro hn
   have h3 := List.all_eq_true.1 h n (List.mem_range.2 (by omega))
   rw [Bool.and_eq_true] at h3
   have h4 := Nat.eq_of_beq_eq_true h3.2
   have h5 : expT.getD (n + 1) 1 = expT.getD (n + 1) 0 := by
     have hl : expT.length = 255 := by decide +kernel
     rw [List.getD_eq_getElem?_getD, List.getD_eq_getElem?_getD, List.getElem?_eq_getElem (by rw [hl]; exact hn)]; rfl
   rw [gpN_two, ih (by omega), ← h5]; exact h4.symm
theorem lg_exp {n : Nat} (hn : n < 255) : lgN (gpN 2 n) = n := by
 have h : (List.range 255).all (fun n => Nat.beq (lgT.getD (expT.getD n 0) 0) n) = true := by decide +kernel
 rw [expT_ok n hn]
 exact Nat.eq_of_beq_eq_true (List.all_eq_true.1 h n (List.mem_range.2 hn))
theorem lg_ok {b : Nat} (hb : b < 256) (h0 : b ≠ 0) : gpN 2 (lgN b) = b ∧ lgN b < 255 := by
 have h2 : all256 (fun b => Nat.beq b 0 || (Nat.blt (lgT.getD b 0) 255 && Nat.beq (expT.getD (lgT.getD b 0) 0) b)) = true := by decide +kernel
 have h6 := all256_spec h2 hb
 rw [Bool.or_eq_true, Bool.and_eq_true] at h6
 rcases h6 with h6 | ⟨h6, h7⟩
 · exact absurd (Nat.eq_of_beq_eq_true h6) h0
 · have h8 : lgN b < 255 := by unfold lgN; simpa [Nat.blt_eq] using h6
   exact ⟨by rw [expT_ok _ h8]; exact Nat.eq_of_beq_eq_true h7, h8⟩
theorem gpN_two_ne {n : Nat} : gpN 2 n ≠ 0 := by
 intro h
 have h1 : gpN 2 (n % 255) = 0 := by rw [gpN_mod (by decide) (by decide)]; exact h
 have h2 : (List.range 255).all (fun n => !(Nat.beq (expT.getD n 0) 0)) = true := by decide +kernel
 have h3 := List.all_eq_true.1 h2 (n % 255) (List.mem_range.2 (Nat.mod_lt _ (by decide)))
 rw [expT_ok _ (Nat.mod_lt _ (by decide))] at h1
 rw [h1] at h3; cases h3
def layAt (n j : Nat) : Int :=
 if j < 510 then (if j % 255 < n then ((gpN 2 (j % 255) : Nat) : Int) else 0)
 else (if j - 510 ≠ 0 ∧ lgN (j - 510) < n then ((lgN (j - 510) : Nat) : Int) else 0)
theorem lay_end : (List.range 766).map (layAt 255) = exps ++ logs := by
 apply List.ext_getElem (by simp [exps, logs])
 intro j h1 h2
 have hj : j < 766 := by simpa using h1
 rw [List.getElem_map, List.getElem_range]
 by_cases h : j < 510
 · rw [List.getElem_append_left (by simp [exps]; exact h)]
   simp only [exps, List.getElem_map, List.getElem_range, layAt, if_pos h, if_pos (Nat.mod_lt j (by decide : 0 < 255))]
   rw [gpN_mod (by decide) (by decide)]
 · rw [List.getElem_append_right (by simp [exps]; omega)]
   simp only [logs, exps, List.getElem_map, List.getElem_range, layAt, if_neg h, List.length_map, List.length_range]
   by_cases h0 : j - 510 = 0
   · rw [h0]; simp; decide +kernel
   · rw [if_pos ⟨h0, (lg_ok (by omega) h0).2⟩]
theorem lay_round {n : Nat} (hn : n < 255) : (((((List.range 766).map (layAt n)).set (0 + n) ((gpN 2 n : Nat) : Int)).set (0 + (n + 255)) ((gpN 2 n : Nat) : Int)).set (510 + gpN 2 n) (n : Int)) = (List.range 766).map (layAt (n + 1)) := by
 have hb := gpN_lt (a := 2) (by decide) n
 have hne := gpN_two_ne (n := n)
 apply List.ext_getElem (by simp)
 intro j h1 h2
 have hj : j < 766 := by simpa using h2
 rw [List.getElem_map, List.getElem_range]
 simp only [List.getElem_set, List.getElem_map, List.getElem_range]
 unfold layAt
 by_cases h : j < 510
 · rw [if_neg (by omega)]
   simp only [if_pos h]
   by_cases e1 : j % 255 = n
   · rw [if_pos (by omega : j % 255 < n + 1), e1]
     by_cases e2 : 0 + (n + 255) = j
     · rw [if_pos e2]
     · rw [if_neg e2, if_pos (by omega)]
   · rw [if_neg (by omega), if_neg (by omega)]
     by_cases e3 : j % 255 < n
     · rw [if_pos e3, if_pos (by omega)]
     · rw [if_neg e3, if_neg (by omega)]
 · simp only [if_neg h]
   by_cases e : 510 + gpN 2 n = j
   · rw [if_pos e]
     have e1 : j - 510 = gpN 2 n := by omega
     rw [e1, lg_exp hn, if_pos ⟨hne, by omega⟩]
   · rw [if_neg e, if_neg (by omega), if_neg (by omega)]
     by_cases h0 : j - 510 = 0
     · rw [if_neg (by omega), if_neg (by omega)]
     · obtain ⟨e1, l1⟩ := lg_ok (b := j - 510) (by omega) h0
       have hx : lgN (j - 510) ≠ n := fun hx => e (by rw [← hx, e1]; omega)
       by_cases e3 : lgN (j - 510) < n
       · rw [if_pos ⟨h0, e3⟩, if_pos ⟨h0, by omega⟩]
       · rw [if_neg (fun hh => e3 hh.2), if_neg (fun hh => e3 (by have := hh.2; omega))]
theorem lay_l0 : ∀ (d n k : Nat), n + d = 255 → 70000 + d < k → table_Table_layL.l0 k ((List.range 766).map (layAt n)) ((gpN 2 n : Nat) : Int) (n : Int) = some (exps ++ logs)
 | d, _, 0, _, h => by omega
 | 0, n, k + 1, hn, hk => by
   obtain rfl : n = 255 := by omega
   rw [table_Table_layL.l0, bifF (by omega), lay_end]; rfl
 | d + 1, n, k + 1, hn, hk => by
   have hb := gpN_lt (a := 2) (by decide) n
   have e1 : IntKind.i64.wrap ((n : Int) + 255) = ((n + 255 : Nat) : Int) := by rw [i64_id (by omega) (by omega)]; omega
   rw [table_Table_layL.l0, bifT (by omega), grdT (by omega), e1, grdT (by omega), grdT (by omega), show (2 : Int) = ((2 : Nat) : Int) from rfl, smul_ok hb (by decide) (by omega), Option.bind_some, u8_id (by omega) (by omega), wrap1 (by omega)]
   simp only [Int.toNat_natCast]
   rw [lay_round (by omega)]
   exact lay_l0 d (n + 1) k (by omega) (by omega)
set_option maxRecDepth 100000 in
theorem lay_ok {k : Nat} (hk : 80000 < k) : table_Table_layL.f k = some (exps ++ logs) := by
 unfold table_Table_layL.f
 have e : List.replicate 766 (0 : Int) = (List.range 766).map (layAt 0) := by
   apply List.ext_getElem (by simp)
   intro j h1 h2
   rw [List.getElem_replicate, List.getElem_map]
   unfold layAt; split
   · rw [if_neg (by omega)]
   · rw [if_neg (by omega)]
 rw [e]
 exact lay_l0 255 0 k (by omega) (by omega)
theorem hd_0 (a b c d : Value) (l : List Value) : (([a, b, c, d] : List Value) ++ l).toArray[0]? = some a := by simp
theorem hd_1 (a b c d : Value) (l : List Value) : (([a, b, c, d] : List Value) ++ l).toArray[1]? = some b := by simp
theorem set_0 (a b c d x : Value) (l : List Value) : (([a, b, c, d] : List Value) ++ l).toArray.setIfInBounds 0 x = (([x, b, c, d] : List Value) ++ l).toArray := by simp
theorem set_1 (a b c d x : Value) (l : List Value) : (([a, b, c, d] : List Value) ++ l).toArray.setIfInBounds 1 x = (([a, x, c, d] : List Value) ++ l).toArray := by simp
theorem tabC_f : tabC false = ([.int .u32 0, .int .i32 0, .int .u32 0, .int .i32 0] : List Value) ++ (List.replicate 766 (0 : Int)).map (Value.int .u8) := by
 rw [List.map_replicate]; rfl
theorem tabC_t : tabC true = ([.int .u32 1, .int .i32 0, .int .u32 0, .int .i32 1] : List Value) ++ (exps ++ logs).map (Value.int .u8) := rfl
variable [LibO]
set_option maxRecDepth 100000 in
theorem tab_made {t : Nat} {w : World} (h : (Rs.tab t false).inv w) : St (Rs.tab t true).fp (w.setCell ⟨t, 1, none⟩ (.int .i32 1)) (w.setCell ⟨t, 1, none⟩ (.int .i32 1)) [.blk t (([.int .u32 0, .int .i32 1, .int .u32 0, .int .i32 0] : List Value) ++ (List.replicate 766 (0 : Int)).map (Value.int .u8)).toArray 237, .gt] := by
 obtain ⟨hg, h1, hb⟩ := h
 have hb' := blk_set (o := 1) (.int .i32 1) hb
 have hg' : Rs.gt.inv (w.setCell ⟨t, 1, none⟩ (.int .i32 1)) := Rs.gt.loc w _ (fun b e => by
   have e' : b = 7 := e
   exact Below.heap_setCell w _ _ b (fun x => h1 (x.symm.trans e'))) hg
 refine ⟨.refl _ _, ?_, ?_, ?_⟩
 · intro r hr
   rcases List.mem_cons.1 hr with rfl | hr
   · rw [tabC_f, set_1] at hb'; exact hb'
   · rw [List.mem_singleton.1 hr]; exact hg'
 · intro r hr b hbf
   rcases List.mem_cons.1 hr with rfl | hr
   · exact .inr (.inl hbf)
   · rw [List.mem_singleton.1 hr] at hbf; exact .inr (.inr hbf)
 · refine List.pairwise_cons.2 ⟨fun s hs b x y => ?_, List.pairwise_singleton _ _⟩
   rw [List.mem_singleton.1 hs] at y
   have x' : b = t := x
   have y' : b = 7 := y
   exact h1 (x'.symm.trans y')
set_option maxRecDepth 100000 in
theorem tab_do {t : Nat} {m : Bool} {w : World} (h : (Rs.tab t m).inv w) : Calls Tryz.prog 123 #[.pointer (some ⟨t, 0, none⟩), .func (.func 376) #[.pointer (some ⟨t, 0, none⟩)] #[]] w fun e w' => e = .returned (.tuple #[]) ∧ (Rs.tab t true).inv w' ∧ Ch (Rs.tab t m).fp w w' := by
 cases m with
 | true =>
   refine (on_done ⟨t, 0, none⟩ 1 (by decide) _ w (blk_cell h.2.2 (by rw [tabC_t]; exact hd_0 _ _ _ _ _))).mono ?_
   rintro e w' ⟨rfl, rfl⟩
   exact ⟨rfl, h, .refl _ _⟩
 | false =>
   obtain ⟨hg, h1, hb⟩ := id h
   have hlt : t < w.heap.size := (Rs.blk t _ _).bd w hb t rfl
   let w1 := w.setCell ⟨t, 1, none⟩ (.int .i32 1)
   have hm := table_Table_layL.calls (k := 100000) (tab_made h) (lay_ok (by decide))
   refine (on_do_lay t 0 (.pointer (some ⟨t, 0, none⟩)) w (fun w2 => St (Rs.tab t true).fp w1 w2 [.blk t (([.int .u32 0, .int .i32 1, .int .u32 0, .int .i32 1] : List Value) ++ (exps ++ logs).map (Value.int .u8)).toArray 237, .gt])
     (blk_cell hb (by rw [tabC_f]; exact hd_0 _ _ _ _ _)) (blk_cell hb (by rw [tabC_f]; exact hd_1 _ _ _ _ _)) (blk_frozen hb) (blk_frozen hb) (hm.mono fun e w2 ⟨e1, K⟩ => ⟨e1, K⟩) (fun w2 K => ?_)).mono ?_
   · have hb2 := K.get 0 rfl
     exact ⟨blk_cell hb2 (hd_0 _ _ _ _ _), blk_cell hb2 (hd_1 _ _ _ _ _), blk_frozen hb2, blk_frozen hb2⟩
   · rintro e w' ⟨rfl, w2, K, rfl⟩
     have hb2 := K.get 0 rfl
     have hg2 := K.get 1 rfl
     have hb3 : (Rs.blk t _ _).inv w2.drew := hb2
     have hb4 := blk_set (o := 0) (.int .u32 1) hb3
     rw [set_0] at hb4
     have hb5 := blk_set (o := 1) (.int .i32 0) hb4
     rw [set_1, ← tabC_t] at hb5
     refine ⟨rfl, ⟨?_, h1, ?_⟩, ?_⟩
     · refine Rs.gt.loc w2 _ (fun b e => ?_) hg2
       have e' : b = 7 := e
       rw [Below.heap_setCell _ _ _ b (fun x => h1 (x.symm.trans e')), Below.heap_setCell _ _ _ b (fun x => h1 (x.symm.trans e'))]; rfl
     · exact hb5
     · have c1 : Ch (Rs.tab t false).fp w w1 := .set w _ _ (.inl rfl)
       have c2 : Ch (Rs.tab t false).fp w1 w2 := K.ch
       exact ((c1.trans c2).trans (.drew _ _)).trans ((Ch.set _ _ _ (.inl rfl)).trans (.set _ _ _ (.inl rfl)))
theorem of_f0 : Fa Tryz.prog 237 0 0 := ⟨_, _, Tryz.underlying237, rfl, rfl, 2, by kernel_rfl⟩
theorem of_f2 : Fa Tryz.prog 237 2 4 := ⟨_, _, Tryz.underlying237, rfl, rfl, 765, by kernel_rfl⟩
theorem of_en : En Tryz.prog 123 := ⟨_, _, Tryz.func123, by kernel_rfl, rfl⟩
set_option maxRecDepth 100000 in
theorem table_Table_of.calls {w0 : World} {t0_ : Nat} {m0_ : Bool} (hf : (Rs.tab t0_ m0_).inv w0) : Calls Tryz.prog 379 #[.pointer (some ⟨t0_, 0, none⟩)] w0 fun e w' => e = .returned (.pointer (some ⟨t0_, 4, none⟩)) ∧ St (Rs.tab t0_ m0_).fp w0 w' [.tab t0_ true] := by
 have H := St.start hf
 refine calls_of_wc (N := 12) (args := [.pointer (some ⟨t0_, 0, none⟩)]) Tryz.func379 rfl rfl (by simp) ?_
 refine rg (v_ rfl (sg (.pointer none) rfl) (nl (rg (v_ rfl (mv (.pointer (some ⟨t0_, 0, none⟩)) rfl) (v_ rfl (r_nilck rfl) (v_ rfl (r_faddr of_f0 rfl) (v_ rfl (mv (.pointer (some ⟨t0_, 0, none⟩)) rfl) (v_ rfl (r_mkF [.pointer (some ⟨t0_, 0, none⟩)] [] rfl rfl) (e_ rfl (y_callL of_en rfl ((tab_do (H.get 0 rfl)).mono ?_)))))))))))
 rintro _ w ⟨rfl, K1, K2⟩
 have H := H.put 0 rfl K2 K1 (fun _ hb => .inl hb)
 refine ⟨_, rfl, ?_⟩
 refine nl (rg (v_ rfl (mv (.pointer (some ⟨t0_, 0, none⟩)) rfl) (v_ rfl (r_nilck rfl) (v_ rfl (r_faddr of_f2 rfl) (v_ rfl (sg (.pointer (some ⟨t0_, 0 + 4, none⟩)) rfl) (nl (wc_ret ?_)))))))
 exact ⟨.inl rfl, _, tk0 rfl ⟨resN rfl (rv_t rv_nil), rfl, H⟩⟩
end Go.Proofs.YtkndgkbgbmhjoaaGreatDoor.Gw
