/- What these functions compute, and that they do: slices_Clone, noise_Apply, ref01_Same, ref01_Ints, code_Right, code_Space. -/
/- Printed by a program of this project. -/
import Derived.Test.YthfhhnlnlcbckaaQ0
import Derived.Test.YthfhhnlnlcbckaaIter
namespace Go.Proofs.Ythfhhnlnlcbckaa.Gw
open Go Go.RowKit
set_option linter.unusedVariables false
set_option linter.unusedSimpArgs false
/-- slices.Clone[[]byte,byte]: the same again, in new memory. -/
def slices_Clone.f (a0 : List (Int)) : Option (List (Int)) := grd (decide (a0.length * 1 ≤ 140737488355328)) (some a0)
set_option maxRecDepth 100000 in
theorem slices_Clone.calls {w0 : World} {a0 : List (Int)} {v0_ : Value} {r : List (Int)} (h0 : Rd (.of (.int .u8)) w0 (Ol no w0) v0_ a0) (E : slices_Clone.f a0 = some r) :
    Calls Try.prog 41 #[v0_] w0 fun e w' => ∃ u0 : Value, e = .returned (u0) ∧ St no w0 w' [.own (.int .u8) 5 u0 r] := by
  have H := St.nil no w0
  unfold slices_Clone.f at E
  obtain ⟨g1, E⟩ := grd_some E
  cases E
  obtain ⟨p, c, rfl, h2, h3, h4⟩ := id h0
  cases p with
  | none =>
    obtain rfl : a0 = [] := by
      rcases h4 with ⟨h, _, _⟩ | ⟨b, o, h, _⟩
      · exact h
      · cases h
    refine calls_of_wc (N := 8) (args := [.slice none ([] : List (Int)).length c]) Try.func41 rfl rfl (by simp) ?_
    refine rg (v_ rfl (sg (.slice none 0 0) rfl) (nl (wc_seq (rg (v_ rfl (mv (.slice none ([] : List (Int)).length c) rfl) (v_ rfl (r_snil Try.underlying42 rfl rfl) (nl (wc_condT2 rfl rfl (rg (v_ rfl (sg (.slice none 0 0) rfl) (nl ?_)))))))))))
    have H := H.nilOwn (.int .u8) 5
    refine wc_ret ?_
    exact r_thn ⟨.inl rfl, _, tk0 rfl ⟨resN rfl (rv_t rv_nil), _, rfl, H.sub1 0 rfl⟩⟩
  | some p =>
    refine calls_of_wc (N := 8) (args := [.slice (some p) a0.length c]) Try.func41 rfl rfl (by simp) ?_
    refine rg (v_ rfl (sg (.slice none 0 0) rfl) (nl (wc_seq (rg (v_ rfl (mv (.slice (some p) a0.length c) rfl) (v_ rfl (r_snil Try.underlying42 rfl rfl) (nl (wc_condF2 rfl rfl (wc_skip (n_thn ?_))))))))))
    refine rg (e_ rfl (y_bs0 (e := (.int .u8)) sl_42 H (fun v1 w H => (v_ rfl (mv (.slice (some p) a0.length c) rfl) (e_ rfl (y_app sl_42 H 0 rfl (H.rd h0) rfl rfl (by simpa using g1) (by unfold maxLen; simp; omega) (fun v2 w H => (v_ rfl (sg v2 rfl) (nl ?_)))))))))
    rw [List.nil_append] at H
    refine wc_ret ?_
    exact ⟨.inl rfl, _, tk0 rfl ⟨resN rfl (rv_t rv_nil), _, rfl, H.sub1 0 rfl⟩⟩

def noise_Apply.j0 (k : Nat) (l81 : List (Int)) (l82 : List Int) : Option (List Int × List Int) := grd (decide (l82.length * 8 ≤ 140737488355328)) (some (l81, skeys l82))
def noise_Apply.j1 (l0r : (List (Int × Int × Bool × Bool)) → List (Int) → List Int → Int → Option (List Int × List Int)) (k : Nat) (a1 : List (Int × Int × Bool × Bool)) (x110 : Int) (l156 : List (Int)) (l157 : List Int) : Option (List Int × List Int) := l0r a1 l156 l157 (IntKind.i64.wrap (x110 + 1))
def noise_Apply.j3 (l0r : (List (Int × Int × Bool × Bool)) → List (Int) → List Int → Int → Option (List Int × List Int)) (k : Nat) (a1 : List (Int × Int × Bool × Bool)) (l109 : List Int) (x110 : Int) (l173 : List (Int)) : Option (List Int × List Int) := bif (at_ (0, 0, false, false) a1 x110).2.2.2 then (grd (decide (-9223372036854775808 ≤ (at_ (0, 0, false, false) a1 x110).1 ∧ (at_ (0, 0, false, false) a1 x110).1 ≤ 9223372036854775807 ∧ l109.length * 8 ≤ 140737488355328)) (noise_Apply.j1 l0r k a1 x110 l173 (l109 ++ [(at_ (0, 0, false, false) a1 x110).1]))) else (noise_Apply.j1 l0r k a1 x110 l173 l109)
def noise_Apply.j2 (l0r : (List (Int × Int × Bool × Bool)) → List (Int) → List Int → Int → Option (List Int × List Int)) (k : Nat) (a1 : List (Int × Int × Bool × Bool)) (l108 : List (Int)) (l109 : List Int) (x110 : Int) (x165 : Bool) : Option (List Int × List Int) := bif !x165 then (noise_Apply.j1 l0r k a1 x110 l108 l109) else (bif (at_ (0, 0, false, false) a1 x110).2.2.1 then (grd (decide ((0 : Int) ≤ (at_ (0, 0, false, false) a1 x110).1 ∧ (at_ (0, 0, false, false) a1 x110).1 < (l108.length : Int))) (noise_Apply.j3 l0r k a1 l109 x110 (l108.set ((at_ (0, 0, false, false) a1 x110).1).toNat ((at_ (0, 0, false, false) a1 x110).2.1)))) else (noise_Apply.j3 l0r k a1 l109 x110 l108))
def noise_Apply.l0 : Nat → (List (Int × Int × Bool × Bool)) → List (Int) → List Int → Int → Option (List Int × List Int)
  | 0, _, _, _, _ => none
  | k + 1, a1, l108, l109, x110 => bif decide (x110 < (a1.length : Int)) then (grd (decide ((0 : Int) ≤ x110 ∧ x110 < (a1.length : Int))) (bif decide (0 ≤ (at_ (0, 0, false, false) a1 x110).1) then (noise_Apply.j2 (noise_Apply.l0 k) k a1 l108 l109 x110 (decide ((at_ (0, 0, false, false) a1 x110).1 < (l108.length : Int)))) else (noise_Apply.j2 (noise_Apply.l0 k) k a1 l108 l109 x110 false))) else (noise_Apply.j0 k l108 l109)
def noise_Apply.f (k : Nat) (a0 : List Int) (a1 : List (Int × Int × Bool × Bool)) : Option (List Int × List Int) := (slices_Clone.f a0).bind fun x1 => noise_Apply.l0 k a1 x1 ([] : List Int) 0
set_option maxRecDepth 100000 in
set_option maxHeartbeats 4000000 in
theorem noise_Apply.calls {w0 : World} {k : Nat} {a0 : List Int} {a1 : List (Int × Int × Bool × Bool)} {v0_ : Value} {v1_ : Value} {r : List Int × List Int} (h0 : Rd (.of (.int .u8)) w0 (Ol no w0) v0_ a0) (h1 : Rd (.of (.pr (.int .i64) (.pr (.int .u8) (.pr .bool .bool)))) w0 (Ol no w0) v1_ a1) (E : noise_Apply.f k a0 a1 = some r) :
    Calls Try.prog 19 #[v0_, v1_] w0 fun e w' => ∃ (u0 : Value) (u1 : Value), e = .returned (.tuple #[u0, u1]) ∧ St no w0 w' [.own (.int .u8) 5 u0 r.1, .own (.int .i64) 3 u1 r.2] := by
  have H := St.nil no w0
  unfold noise_Apply.f at E
  refine calls_of_wc (N := 34) (args := [v0_, v1_]) Try.func19 rfl rfl (by simp) ?_
  refine rg (v_ rfl (sg (.slice none 0 0) rfl) (v_ rfl (sg (.slice none 0 0) rfl) (nl (rg (v_ rfl (mv v0_ rfl) ?_)))))
  obtain ⟨x1, E2, E⟩ := bind_some E
  refine e_ rfl (y_callL en_41 rfl ((slices_Clone.calls (H.arg (H.rd h0)) E2).mono ?_))
  rintro _ w ⟨v3, rfl, K⟩
  have H := H.app K
  refine ⟨_, rfl, (e_ rfl (y_mkMap H 3 (fun b4 w H => ?_)))⟩
  obtain ⟨p5, n6, c7, rfl⟩ := own_form (H.get 0 rfl)
  refine v_ rfl (r_build (cs := [(.slice p5 n6 c7), .map (some b4)]) bd_81 rfl) (e_ rfl (y_boxS (cs := #[(.slice p5 n6 c7), .map (some b4)]) H rfl (fun b8 w H => (v_ rfl (sg (.pointer (some ⟨b8, 0, none⟩)) rfl) (nl ?_)))))
  refine wc_seqJ (fun t w => ∃ (k84 : Nat) (l81 : List (Int)) (l82 : List Int) (t83 : Fr), k84 ≤ k ∧ noise_Apply.j0 k84 l81 l82 = some r ∧ t = upds t83 [(4, .slice none 0 0), (5, .slice none 0 0), (6, .pointer (some ⟨b8, 0, none⟩)), (1000000, undef)] ∧ St no w0 w [.own (.int .u8) 5 (.slice p5 n6 c7) l81, .mp Try.prog 3 b4 l82, .blk b8 #[(.slice p5 n6 c7), .map (some b4)] 81]) ?_ ?_
  · refine rg (v_ rfl (mv v1_ rfl) (v_ rfl (r_lenR ul_43 (H.rd h1) rfl) (v_ rfl (mv (.int .i64 0) rfl) (nl (wc_block ?_)))))
    refine wc_loop (fun kk t w => ∃ (l108 : List (Int)) (l109 : List Int) (x110 : Int) (t135 : Fr), kk ≤ k ∧ noise_Apply.l0 kk a1 l108 l109 x110 = some r ∧ t = upds t135 [(4, .slice none 0 0), (5, .slice none 0 0), (6, .pointer (some ⟨b8, 0, none⟩)), (14, v1_), (15, .int .i64 (a1.length : Int)), (16, .int .i64 x110), (1000000, undef)] ∧ St no w0 w [.own (.int .u8) 5 (.slice p5 n6 c7) l108, .mp Try.prog 3 b4 l109, .blk b8 #[(.slice p5 n6 c7), .map (some b4)] 81]) k ?_ ?_
    · exact ⟨_, _, _, _, Nat.le_refl _, E, upds_eq ⟨rfl, rfl, rfl, rfl, rfl, rfl, rfl, trivial⟩, H⟩
    rintro kk t w ⟨l108, l109, x110, t135, hk134, E, rfl, H⟩
    obtain ⟨k133, rfl⟩ | rfl : (∃ k', kk = k' + 1) ∨ kk = 0 := by cases kk; exact .inr rfl; exact .inl ⟨_, rfl⟩
    rotate_left
    · cases E
    rw [noise_Apply.l0] at E
    refine rg (v_ rfl (r_lss rfl rfl) (nl (wc_seq ?_)))
    refine wc_cond rfl (fun c137 => ?_) (fun c137 => ?_)
    · have E := iT c137 E
      refine wc_skip (n_thn (wc_seq (wc_block (rg ?_))))
      obtain ⟨⟨g138, g139⟩, E⟩ := grd_some E
      refine v_ rfl (r_idx sl_43 (H.rd h1) rfl rfl g138 g139) (v_ rfl (r_ldA (z := (0, 0, false, false)) ag_48 (H.rd h1) g138 g139 rfl rfl) (e_ rfl (y_allocS zr_48 H (fun b140 w H => (s_ (y_storeBA sz_48 H 3 rfl rfl rfl rfl rfl rfl (fun w H => (nl (wc_region (v_ rfl (mv (.pointer (some ⟨b8, 0, none⟩)) rfl) (v_ rfl (r_loadB (l := [.int .i64 ((at_ (0, 0, false, false) a1 x110).1), .int .u8 ((at_ (0, 0, false, false) a1 x110).2.1), .bool ((at_ (0, 0, false, false) a1 x110).2.2.1), .bool ((at_ (0, 0, false, false) a1 x110).2.2.2)]) ag_48 (H.get 3 rfl) rfl rfl rfl) ?_)))))))))))
      refine e_ rfl (y_J (fun v w => ∃ (k158 : Nat) (l156 : List (Int)) (l157 : List Int), k158 ≤ k133 ∧ noise_Apply.j1 (noise_Apply.l0 k158) k158 a1 x110 l156 l157 = some r ∧ v = .tuple #[] ∧ St no w0 w [.own (.int .u8) 5 (.slice p5 n6 c7) l156, .mp Try.prog 3 b4 l157, .blk b8 #[(.slice p5 n6 c7), .map (some b4)] 81, .blk b140 #[.int .i64 ((at_ (0, 0, false, false) a1 x110).1), .int .u8 ((at_ (0, 0, false, false) a1 x110).2.1), .bool ((at_ (0, 0, false, false) a1 x110).2.2.1), .bool ((at_ (0, 0, false, false) a1 x110).2.2.2)] 48]) ?_ ?_)
      · refine (y_in 29 [.pointer (some ⟨b8, 0, none⟩), .agg #[.int .i64 ((at_ (0, 0, false, false) a1 x110).1), .int .u8 ((at_ (0, 0, false, false) a1 x110).2.1), .bool ((at_ (0, 0, false, false) a1 x110).2.2.1), .bool ((at_ (0, 0, false, false) a1 x110).2.2.2)]] en_42 Try.func42 rfl rfl rfl rfl (rg (e_ rfl (y_boxS (cs := #[.int .i64 ((at_ (0, 0, false, false) a1 x110).1), .int .u8 ((at_ (0, 0, false, false) a1 x110).2.1), .bool ((at_ (0, 0, false, false) a1 x110).2.2.1), .bool ((at_ (0, 0, false, false) a1 x110).2.2.2)]) H rfl (fun b160 w H => (nl (wc_seq (rg (v_ rfl (mv (.pointer (some ⟨b8, 0, none⟩)) rfl) (v_ rfl (r_faddr fa_48_0 rfl) (v_ rfl (r_load sc_3 rfl (blk_cell (H.get 4 rfl) rfl)) ?_)))))))))))
        refine e_ rfl (y_J (fun v w => ∃ (k166 : Nat) (x165 : Bool), k166 ≤ k133 ∧ noise_Apply.j2 (noise_Apply.l0 k166) k166 a1 l108 l109 x110 x165 = some r ∧ v = .bool x165 ∧ St no w0 w [.own (.int .u8) 5 (.slice p5 n6 c7) l108, .mp Try.prog 3 b4 l109, .blk b8 #[(.slice p5 n6 c7), .map (some b4)] 81, .blk b140 #[.int .i64 ((at_ (0, 0, false, false) a1 x110).1), .int .u8 ((at_ (0, 0, false, false) a1 x110).2.1), .bool ((at_ (0, 0, false, false) a1 x110).2.2.1), .bool ((at_ (0, 0, false, false) a1 x110).2.2.2)] 48, .blk b160 #[.int .i64 ((at_ (0, 0, false, false) a1 x110).1), .int .u8 ((at_ (0, 0, false, false) a1 x110).2.1), .bool ((at_ (0, 0, false, false) a1 x110).2.2.1), .bool ((at_ (0, 0, false, false) a1 x110).2.2.2)] 48]) ?_ ?_)
        · refine (y_in 16 [.pointer (some ⟨b8, 0, none⟩), .int .i64 ((at_ (0, 0, false, false) a1 x110).1)] en_55 Try.func55 rfl rfl rfl rfl (rg (v_ rfl (sg (.bool false) rfl) (nl (rg (v_ rfl (mv (.int .i64 ((at_ (0, 0, false, false) a1 x110).1)) rfl) (v_ rfl (r_geq rfl rfl) (v_ rfl (mv (.bool (decide (0 ≤ (at_ (0, 0, false, false) a1 x110).1))) rfl) ?_))))))))
          rcases Bool.eq_false_or_eq_true (decide (0 ≤ (at_ (0, 0, false, false) a1 x110).1)) with c168 | c168
          · have E := iT c168 E
            refine on_ c168 rfl rfl (mv (.int .i64 ((at_ (0, 0, false, false) a1 x110).1)) rfl) (on_ c168 rfl rfl (mv (.pointer (some ⟨b8, 0, none⟩)) rfl) (on_ c168 rfl rfl (r_nilck rfl) (on_ c168 rfl rfl (r_faddr fa_81_0 rfl) (on_ c168 rfl rfl (r_load sc_42 rfl (blk_cell (H.get 2 rfl) rfl)) (on_ c168 rfl rfl (r_lenR ul_42 (own_rd (H.get 0 rfl)) rfl) (on_ c168 rfl rfl (r_lss rfl rfl) (v_ rfl (pT (.bool (decide ((at_ (0, 0, false, false) a1 x110).1 < (l108.length : Int)))) rfl rfl c168) (v_ rfl (sg (.bool (decide ((at_ (0, 0, false, false) a1 x110).1 < (l108.length : Int)))) rfl) (nl (wc_ret ?_))))))))))
            exact ⟨.inl rfl, .bool (decide ((at_ (0, 0, false, false) a1 x110).1 < (l108.length : Int))), tk0 rfl ⟨resM rfl (rv_t rv_nil) rfl, k133, _, Nat.le_refl _, E, rfl, H⟩⟩
          · have E := iF c168 E
            refine off_ c168 rfl rfl rfl (off_ c168 rfl rfl rfl (off_ c168 rfl rfl rfl (off_ c168 rfl rfl rfl (off_ c168 rfl rfl rfl (off_ c168 rfl rfl rfl (off_ c168 rfl rfl rfl (v_ rfl (pF (.bool false) rfl rfl c168) (v_ rfl (sg (.bool false) rfl) (nl (wc_ret ?_))))))))))
            exact ⟨.inl rfl, .bool false, tk0 rfl ⟨resM rfl (rv_t rv_nil) rfl, k133, _, Nat.le_refl _, E, rfl, H⟩⟩
        rintro _ w ⟨k166, x165, hk167, E, rfl, H⟩
        unfold noise_Apply.j2 at E
        refine v_ rfl (r_not rfl) (nl ?_)
        refine wc_cond rfl (fun c169 => ?_) (fun c169 => ?_)
        · have E := iT c169 E
          refine wc_ret ?_
          exact (r_thn ⟨.inl rfl, .tuple #[], tk0 rfl ⟨resM rfl rv_nil rfl, k166, _, _, by omega, E, rfl, H.sel [0, 1, 2, 3] rfl rfl⟩⟩)
        · have E := iF c169 E
          refine wc_skip (n_thn ?_)
          refine wc_seqJ (fun t w => ∃ (k175 : Nat) (l173 : List (Int)) (t174 : Fr), k175 ≤ k166 ∧ noise_Apply.j3 (noise_Apply.l0 k175) k175 a1 l109 x110 l173 = some r ∧ t = upds t174 [(0, .pointer (some ⟨b8, 0, none⟩)), (3, .pointer (some ⟨b160, 0, none⟩)), (1000000, undef)] ∧ St no w0 w [.own (.int .u8) 5 (.slice p5 n6 c7) l173, .mp Try.prog 3 b4 l109, .blk b8 #[(.slice p5 n6 c7), .map (some b4)] 81, .blk b140 #[.int .i64 ((at_ (0, 0, false, false) a1 x110).1), .int .u8 ((at_ (0, 0, false, false) a1 x110).2.1), .bool ((at_ (0, 0, false, false) a1 x110).2.2.1), .bool ((at_ (0, 0, false, false) a1 x110).2.2.2)] 48, .blk b160 #[.int .i64 ((at_ (0, 0, false, false) a1 x110).1), .int .u8 ((at_ (0, 0, false, false) a1 x110).2.1), .bool ((at_ (0, 0, false, false) a1 x110).2.2.1), .bool ((at_ (0, 0, false, false) a1 x110).2.2.2)] 48]) ?_ ?_
          · refine rg (v_ rfl (r_faddr fa_48_2 rfl) (v_ rfl (r_load sc_4 rfl (blk_cell (H.get 4 rfl) rfl)) (nl ?_)))
            refine wc_cond rfl (fun c177 => ?_) (fun c177 => ?_)
            · have E := iT c177 E
              refine wc_drawnS (ds := [9]) mo H rfl rfl ?_
              have H := H.drew
              refine wa_take (i := 0) (l' := #[true, false, false, false, false, false, false, false, false, false]) rfl rfl rfl (by kernel_rfl) H (fun w H => (mv (.pointer (some ⟨b8, 0, none⟩)) rfl)) (wa_take (i := 1) (l' := #[true, true, false, false, false, false, false, false, false, false]) rfl rfl rfl (by kernel_rfl) H (fun w H => (r_nilck rfl)) (wa_take (i := 2) (l' := #[true, true, true, false, false, false, false, false, false, false]) rfl rfl rfl (by kernel_rfl) H (fun w H => (r_faddr fa_81_0 rfl)) (wa_take (i := 3) (l' := #[true, true, true, true, false, false, false, false, false, false]) rfl rfl rfl (by kernel_rfl) H (fun w H => (r_load sc_42 rfl (blk_cell (H.get 2 rfl) rfl))) (wa_take (i := 4) (l' := #[true, true, true, true, true, false, false, false, false, false]) rfl rfl rfl (by kernel_rfl) H (fun w H => (r_faddr fa_48_0 rfl)) (wa_take (i := 5) (l' := #[true, true, true, true, true, true, false, false, false, false]) rfl rfl rfl (by kernel_rfl) H (fun w H => (r_load sc_3 rfl (blk_cell (H.get 4 rfl) rfl))) (wa_take (i := 6) (l' := #[true, true, true, true, true, true, true, false, false, false]) rfl rfl rfl (by kernel_rfl) H (fun w H => (r_faddr fa_48_1 rfl)) (wa_take (i := 7) (l' := #[true, true, true, true, true, true, true, true, false, false]) rfl rfl rfl (by kernel_rfl) H (fun w H => (r_load sc_5 rfl (blk_cell (H.get 4 rfl) rfl))) ?_)))))))
              obtain ⟨⟨g178, g179⟩, E⟩ := grd_some E
              refine wa_take (i := 8) (l' := #[true, true, true, true, true, true, true, true, true, false]) rfl rfl rfl (by kernel_rfl) H (fun w H => (r_idx sl_42 (own_rd (H.get 0 rfl)) rfl rfl g178 g179)) (wa_one (i := 9) (l' := #[true, true, true, true, true, true, true, true, true, true]) rfl rfl rfl (by kernel_rfl) (y_storeI sz_5 H 0 rfl g178 g179 rfl rfl (fun w H => ⟨fun h => (h (by decide)).elim, (wa_done (by kernel_rfl) ?_)⟩)))
              exact ⟨k166, _, _, Nat.le_refl _, E, upds_eq ⟨rfl, rfl, rfl, trivial⟩, H⟩
            · have E := iF c177 E
              refine wc_skip ?_
              exact ⟨k166, _, _, Nat.le_refl _, E, upds_eq ⟨rfl, rfl, rfl, trivial⟩, H⟩
          rintro t w ⟨k175, l173, t174, hk176, E, rfl, H⟩
          unfold noise_Apply.j3 at E
          refine rg (v_ rfl (r_faddr fa_48_3 rfl) (v_ rfl (r_load sc_4 rfl (blk_cell (H.get 4 rfl) rfl)) (nl ?_)))
          refine wc_cond rfl (fun c180 => ?_) (fun c180 => ?_)
          · have E := iT c180 E
            refine wc_drawnS (ds := [7]) mo H rfl rfl ?_
            have H := H.drew
            refine wa_take (i := 0) (l' := #[true, false, false, false, false, false, false, false]) rfl rfl rfl (by kernel_rfl) H (fun w H => (mv (.pointer (some ⟨b8, 0, none⟩)) rfl)) (wa_take (i := 1) (l' := #[true, true, false, false, false, false, false, false]) rfl rfl rfl (by kernel_rfl) H (fun w H => (r_nilck rfl)) (wa_take (i := 2) (l' := #[true, true, true, false, false, false, false, false]) rfl rfl rfl (by kernel_rfl) H (fun w H => (r_faddr fa_81_1 rfl)) (wa_take (i := 3) (l' := #[true, true, true, true, false, false, false, false]) rfl rfl rfl (by kernel_rfl) H (fun w H => (r_load sc_79 rfl (blk_cell (H.get 2 rfl) rfl))) (wa_take (i := 4) (l' := #[true, true, true, true, true, false, false, false]) rfl rfl rfl (by kernel_rfl) H (fun w H => (r_faddr fa_48_0 rfl)) (wa_take (i := 5) (l' := #[true, true, true, true, true, true, false, false]) rfl rfl rfl (by kernel_rfl) H (fun w H => (r_load sc_3 rfl (blk_cell (H.get 4 rfl) rfl))) (wa_take (i := 6) (l' := #[true, true, true, true, true, true, true, false]) rfl rfl rfl (by kernel_rfl) H (fun w H => (r_build (cs := []) bd_87 rfl)) ?_))))))
            obtain ⟨⟨g181, g182, g183⟩, E⟩ := grd_some E
            refine wa_one (i := 7) (l' := #[true, true, true, true, true, true, true, true]) rfl rfl rfl (by kernel_rfl) (y_mapUpd Try.underlying3 Try.underlying79 H 1 rfl rfl rfl rfl g181 g182 (by unfold maxLen; omega) (fun w H => ⟨fun h => (h (by decide)).elim, (wa_done (by kernel_rfl) ?_)⟩))
            exact ⟨.inr rfl, .tuple #[], tk0 rfl ⟨resM rfl rv_nil rfl, k175, _, _, by omega, E, rfl, H.sel [0, 1, 2, 3] rfl rfl⟩⟩
          · have E := iF c180 E
            refine wc_skip ?_
            exact ⟨.inr rfl, .tuple #[], tk0 rfl ⟨resM rfl rv_nil rfl, k175, _, _, by omega, E, rfl, H.sel [0, 1, 2, 3] rfl rfl⟩⟩
      rintro _ w ⟨k158, l156, l157, hk159, E, rfl, H⟩
      unfold noise_Apply.j1 at E
      refine wl_nil (n_bk (n_thn (wc_region (v_ rfl (r_add rfl rfl) (v_ rfl (mv (.int .i64 (IntKind.i64.wrap (x110 + 1))) rfl) (wl_nil ?_))))))
      exact ⟨k158, by omega, _, _, _, _, by omega, E, upds_eq ⟨rfl, rfl, rfl, rfl, rfl, rfl, rfl, trivial⟩, H.sel [0, 1, 2] rfl rfl⟩
    · have E := iF c137 E
      refine wc_exit (x_thn (x_thn (x_bk ?_)))
      exact ⟨k133, _, _, _, by omega, E, upds_eq ⟨rfl, rfl, rfl, rfl, trivial⟩, H⟩
  rintro t w ⟨k84, l81, l82, t83, hk85, E, rfl, H⟩
  unfold noise_Apply.j0 at E
  refine wc_seq (wc_drawnS (ds := []) mo H rfl rfl ?_)
  have H := H.drew
  refine wa_take (i := 0) (l' := #[true, false, false, false, false, false, false, false, false, false, false, false]) rfl rfl rfl (by kernel_rfl) H (fun w H => (mv (.pointer (some ⟨b8, 0, none⟩)) rfl)) (wa_take (i := 1) (l' := #[true, true, false, false, false, false, false, false, false, false, false, false]) rfl rfl rfl (by kernel_rfl) H (fun w H => (r_nilck rfl)) (wa_take (i := 2) (l' := #[true, true, true, false, false, false, false, false, false, false, false, false]) rfl rfl rfl (by kernel_rfl) H (fun w H => (r_faddr fa_81_0 rfl)) (wa_take (i := 3) (l' := #[true, true, true, true, false, false, false, false, false, false, false, false]) rfl rfl rfl (by kernel_rfl) H (fun w H => (r_load sc_42 rfl (blk_cell (H.get 2 rfl) rfl))) (wa_take (i := 4) (l' := #[true, true, true, true, true, false, false, false, false, false, false, false]) rfl rfl rfl (by kernel_rfl) H (fun w H => (mv (.pointer (some ⟨b8, 0, none⟩)) rfl)) (wa_take (i := 5) (l' := #[true, true, true, true, true, true, false, false, false, false, false, false]) rfl rfl rfl (by kernel_rfl) H (fun w H => (r_nilck rfl)) (wa_take (i := 6) (l' := #[true, true, true, true, true, true, true, false, false, false, false, false]) rfl rfl rfl (by kernel_rfl) H (fun w H => (r_faddr fa_81_1 rfl)) (wa_take (i := 7) (l' := #[true, true, true, true, true, true, true, true, false, false, false, false]) rfl rfl rfl (by kernel_rfl) H (fun w H => (r_load sc_79 rfl (blk_cell (H.get 2 rfl) rfl))) (wa_one (i := 8) (l' := #[true, true, true, true, true, true, true, true, true, false, false, false]) rfl rfl rfl (by kernel_rfl) (keys_y H rfl (fun b184 w H => ⟨fun _ => H.sel [0, 1, 2] rfl rfl, ?_⟩))))))))))
  obtain ⟨g186, E⟩ := grd_some E
  refine wa_one (i := 9) (l' := #[true, true, true, true, true, true, true, true, true, true, false, false]) rfl rfl rfl (by kernel_rfl) (sorted_y H 3 rfl 1 rfl rfl g186 (fun v185 w H => ⟨fun _ => H.sel [0, 1, 2] rfl rfl, (wa_take (i := 10) (l' := #[true, true, true, true, true, true, true, true, true, true, true, false]) rfl rfl rfl (by kernel_rfl) (H.sel [0, 1, 2] rfl rfl) (fun w H => (sg ((.slice p5 n6 c7)) rfl)) (wa_oneV (i := 11) (l' := #[true, true, true, true, true, true, true, true, true, true, true, true]) rfl rfl rfl (by kernel_rfl) ((H.sel [0, 1, 2] rfl rfl)) (sg v185 rfl) (wa_done (by kernel_rfl) (n_thn (wc_ret ?_)))))⟩))
  cases E
  exact ⟨.inl rfl, _, tk0 rfl ⟨resN rfl (rv_t (rv_t rv_nil)), _, _, rfl, H.sub2 0 4 rfl rfl rfl⟩⟩
def ref01_Same.l0 : Nat → List Int → List Int → Int → Option (Bool)
  | 0, _, _, _ => none
  | k + 1, a0, a1, x10 => bif decide (x10 < (a0.length : Int)) then (grd (decide ((0 : Int) ≤ x10 ∧ x10 < (a0.length : Int))) (grd (decide ((0 : Int) ≤ x10 ∧ x10 < (a1.length : Int))) (bif !decide (at_ 0 a0 x10 = at_ 0 a1 x10) then (some false) else (ref01_Same.l0 k a0 a1 (IntKind.i64.wrap (x10 + 1)))))) else (some true)
def ref01_Same.f (k : Nat) (a0 : List Int) (a1 : List Int) : Option (Bool) := bif !decide ((a0.length : Int) = (a1.length : Int)) then (some false) else (ref01_Same.l0 k a0 a1 0)
set_option maxRecDepth 100000 in
set_option maxHeartbeats 4000000 in
theorem ref01_Same.calls {w0 : World} {k : Nat} {a0 : List Int} {a1 : List Int} {v0_ : Value} {v1_ : Value} {r : Bool} (h0 : Rd (.of (.int .u8)) w0 (Ol no w0) v0_ a0) (h1 : Rd (.of (.int .u8)) w0 (Ol no w0) v1_ a1) (E : ref01_Same.f k a0 a1 = some r) :
    Calls Try.prog 20 #[v0_, v1_] w0 fun e w' => e = .returned (.bool r) ∧ St no w0 w' [] := by
  have H := St.nil no w0
  unfold ref01_Same.f at E
  refine calls_of_wc (N := 26) (args := [v0_, v1_]) Try.func20 rfl rfl (by simp) ?_
  refine rg (v_ rfl (sg (.bool false) rfl) (nl (wc_seq (rg (v_ rfl (mv v0_ rfl) (v_ rfl (r_lenR ul_42 (H.rd h0) rfl) (v_ rfl (mv v1_ rfl) (v_ rfl (r_lenR ul_42 (H.rd h1) rfl) (v_ rfl (r_neq rfl rfl) (nl ?_))))))))))
  refine wc_cond rfl (fun c2 => ?_) (fun c2 => ?_)
  · have E := iT c2 E
    refine rg (v_ rfl (sg (.bool false) rfl) (nl (wc_ret ?_)))
    cases E
    exact (r_thn ⟨.inl rfl, _, tk0 rfl ⟨resN rfl (rv_t rv_nil), rfl, H.sub0⟩⟩)
  · have E := iF c2 E
    refine wc_skip (n_thn (wc_seq (rg (v_ rfl (sg (.int .i64 0) rfl) (nl (wc_block ?_))))))
    refine wc_loop (fun kk t w => ∃ (x10 : Int) (t20 : Fr), kk ≤ k ∧ ref01_Same.l0 kk a0 a1 x10 = some r ∧ t = upds t20 [(0, v0_), (1, v1_), (4, .bool false), (5, .int .i64 x10), (1000000, undef)] ∧ St no w0 w []) k ?_ ?_
    · exact ⟨_, _, Nat.le_refl _, E, upds_eq ⟨rfl, rfl, rfl, rfl, rfl, trivial⟩, H⟩
    rintro kk t w ⟨x10, t20, hk19, E, rfl, H⟩
    obtain ⟨k18, rfl⟩ | rfl : (∃ k', kk = k' + 1) ∨ kk = 0 := by cases kk; exact .inr rfl; exact .inl ⟨_, rfl⟩
    rotate_left
    · cases E
    rw [ref01_Same.l0] at E
    refine wc_seq (rg (v_ rfl (mv (.int .i64 x10) rfl) (v_ rfl (mv v0_ rfl) (v_ rfl (r_lenR ul_42 (H.rd h0) rfl) (v_ rfl (r_lss rfl rfl) (nl ?_))))))
    refine wc_cond rfl (fun c22 => ?_) (fun c22 => ?_)
    · have E := iT c22 E
      refine wc_skip (n_thn (wc_seq (wc_block (wc_seq (wc_drawnS (ds := []) mo H rfl rfl ?_)))))
      have H := H.drew
      refine wa_take (i := 0) (l' := #[true, false, false, false, false, false, false, false, false]) rfl rfl rfl (by kernel_rfl) H (fun w H => (mv v0_ rfl)) (wa_take (i := 1) (l' := #[true, true, false, false, false, false, false, false, false]) rfl rfl rfl (by kernel_rfl) H (fun w H => (mv (.int .i64 x10) rfl)) ?_)
      obtain ⟨⟨g23, g24⟩, E⟩ := grd_some E
      refine wa_take (i := 2) (l' := #[true, true, true, false, false, false, false, false, false]) rfl rfl rfl (by kernel_rfl) H (fun w H => (r_idx sl_42 (H.rd h0) rfl rfl g23 g24)) (wa_take (i := 3) (l' := #[true, true, true, true, false, false, false, false, false]) rfl rfl rfl (by kernel_rfl) H (fun w H => (r_ldI sc_5 (H.rd h0) g23 g24 rfl)) (wa_take (i := 4) (l' := #[true, true, true, true, true, false, false, false, false]) rfl rfl rfl (by kernel_rfl) H (fun w H => (mv v1_ rfl)) (wa_take (i := 5) (l' := #[true, true, true, true, true, true, false, false, false]) rfl rfl rfl (by kernel_rfl) H (fun w H => (mv (.int .i64 x10) rfl)) ?_)))
      obtain ⟨⟨g25, g26⟩, E⟩ := grd_some E
      refine wa_take (i := 6) (l' := #[true, true, true, true, true, true, true, false, false]) rfl rfl rfl (by kernel_rfl) H (fun w H => (r_idx sl_42 (H.rd h1) rfl rfl g25 g26)) (wa_take (i := 7) (l' := #[true, true, true, true, true, true, true, true, false]) rfl rfl rfl (by kernel_rfl) H (fun w H => (r_ldI sc_5 (H.rd h1) g25 g26 rfl)) (wa_take (i := 8) (l' := #[true, true, true, true, true, true, true, true, true]) rfl rfl rfl (by kernel_rfl) H (fun w H => (r_neq rfl rfl)) (wa_done (by kernel_rfl) (n_thn ?_))))
      refine wc_cond rfl (fun c27 => ?_) (fun c27 => ?_)
      · have E := iT c27 E
        refine rg (v_ rfl (sg (.bool false) rfl) (nl (wc_ret ?_)))
        cases E
        exact (r_bk (r_thn (r_thn (r_bk (r_thn ⟨.inl rfl, _, tk0 rfl ⟨resN rfl (rv_t rv_nil), rfl, H.sub0⟩⟩)))))
      · have E := iF c27 E
        refine wc_skip (n_bk (n_thn (wc_region (v_ rfl (mv (.int .i64 x10) rfl) (v_ rfl (r_add rfl rfl) (v_ rfl (sg (.int .i64 (IntKind.i64.wrap (x10 + 1))) rfl) (wl_nil ?_)))))))
        exact ⟨k18, Nat.lt_succ_self _, _, _, Nat.le_of_succ_le hk19, E, upds_eq ⟨rfl, rfl, rfl, rfl, rfl, trivial⟩, H⟩
    · have E := iF c22 E
      refine wc_exit (x_thn (x_thn (x_bk (n_thn (rg (v_ rfl (sg (.bool true) rfl) (nl (wc_ret ?_))))))))
      cases E
      exact ⟨.inl rfl, _, tk0 rfl ⟨resN rfl (rv_t rv_nil), rfl, H.sub0⟩⟩
def ref01_Ints.l0 : Nat → List Int → List Int → Int → Option (Bool)
  | 0, _, _, _ => none
  | k + 1, a0, a1, x10 => bif decide (x10 < (a0.length : Int)) then (grd (decide ((0 : Int) ≤ x10 ∧ x10 < (a0.length : Int))) (grd (decide ((0 : Int) ≤ x10 ∧ x10 < (a1.length : Int))) (bif !decide (at_ 0 a0 x10 = at_ 0 a1 x10) then (some false) else (ref01_Ints.l0 k a0 a1 (IntKind.i64.wrap (x10 + 1)))))) else (some true)
def ref01_Ints.f (k : Nat) (a0 : List Int) (a1 : List Int) : Option (Bool) := bif !decide ((a0.length : Int) = (a1.length : Int)) then (some false) else (ref01_Ints.l0 k a0 a1 0)
set_option maxRecDepth 100000 in
set_option maxHeartbeats 4000000 in
theorem ref01_Ints.calls {w0 : World} {k : Nat} {a0 : List Int} {a1 : List Int} {v0_ : Value} {v1_ : Value} {r : Bool} (h0 : Rd (.of (.int .i64)) w0 (Ol no w0) v0_ a0) (h1 : Rd (.of (.int .i64)) w0 (Ol no w0) v1_ a1) (E : ref01_Ints.f k a0 a1 = some r) :
    Calls Try.prog 21 #[v0_, v1_] w0 fun e w' => e = .returned (.bool r) ∧ St no w0 w' [] := by
  have H := St.nil no w0
  unfold ref01_Ints.f at E
  refine calls_of_wc (N := 26) (args := [v0_, v1_]) Try.func21 rfl rfl (by simp) ?_
  refine rg (v_ rfl (sg (.bool false) rfl) (nl (wc_seq (rg (v_ rfl (mv v0_ rfl) (v_ rfl (r_lenR ul_44 (H.rd h0) rfl) (v_ rfl (mv v1_ rfl) (v_ rfl (r_lenR ul_44 (H.rd h1) rfl) (v_ rfl (r_neq rfl rfl) (nl ?_))))))))))
  refine wc_cond rfl (fun c2 => ?_) (fun c2 => ?_)
  · have E := iT c2 E
    refine rg (v_ rfl (sg (.bool false) rfl) (nl (wc_ret ?_)))
    cases E
    exact (r_thn ⟨.inl rfl, _, tk0 rfl ⟨resN rfl (rv_t rv_nil), rfl, H.sub0⟩⟩)
  · have E := iF c2 E
    refine wc_skip (n_thn (wc_seq (rg (v_ rfl (sg (.int .i64 0) rfl) (nl (wc_block ?_))))))
    refine wc_loop (fun kk t w => ∃ (x10 : Int) (t20 : Fr), kk ≤ k ∧ ref01_Ints.l0 kk a0 a1 x10 = some r ∧ t = upds t20 [(0, v0_), (1, v1_), (4, .bool false), (5, .int .i64 x10), (1000000, undef)] ∧ St no w0 w []) k ?_ ?_
    · exact ⟨_, _, Nat.le_refl _, E, upds_eq ⟨rfl, rfl, rfl, rfl, rfl, trivial⟩, H⟩
    rintro kk t w ⟨x10, t20, hk19, E, rfl, H⟩
    obtain ⟨k18, rfl⟩ | rfl : (∃ k', kk = k' + 1) ∨ kk = 0 := by cases kk; exact .inr rfl; exact .inl ⟨_, rfl⟩
    rotate_left
    · cases E
    rw [ref01_Ints.l0] at E
    refine wc_seq (rg (v_ rfl (mv (.int .i64 x10) rfl) (v_ rfl (mv v0_ rfl) (v_ rfl (r_lenR ul_44 (H.rd h0) rfl) (v_ rfl (r_lss rfl rfl) (nl ?_))))))
    refine wc_cond rfl (fun c22 => ?_) (fun c22 => ?_)
    · have E := iT c22 E
      refine wc_skip (n_thn (wc_seq (wc_block (wc_seq (wc_drawnS (ds := []) mo H rfl rfl ?_)))))
      have H := H.drew
      refine wa_take (i := 0) (l' := #[true, false, false, false, false, false, false, false, false]) rfl rfl rfl (by kernel_rfl) H (fun w H => (mv v0_ rfl)) (wa_take (i := 1) (l' := #[true, true, false, false, false, false, false, false, false]) rfl rfl rfl (by kernel_rfl) H (fun w H => (mv (.int .i64 x10) rfl)) ?_)
      obtain ⟨⟨g23, g24⟩, E⟩ := grd_some E
      refine wa_take (i := 2) (l' := #[true, true, true, false, false, false, false, false, false]) rfl rfl rfl (by kernel_rfl) H (fun w H => (r_idx sl_44 (H.rd h0) rfl rfl g23 g24)) (wa_take (i := 3) (l' := #[true, true, true, true, false, false, false, false, false]) rfl rfl rfl (by kernel_rfl) H (fun w H => (r_ldI sc_3 (H.rd h0) g23 g24 rfl)) (wa_take (i := 4) (l' := #[true, true, true, true, true, false, false, false, false]) rfl rfl rfl (by kernel_rfl) H (fun w H => (mv v1_ rfl)) (wa_take (i := 5) (l' := #[true, true, true, true, true, true, false, false, false]) rfl rfl rfl (by kernel_rfl) H (fun w H => (mv (.int .i64 x10) rfl)) ?_)))
      obtain ⟨⟨g25, g26⟩, E⟩ := grd_some E
      refine wa_take (i := 6) (l' := #[true, true, true, true, true, true, true, false, false]) rfl rfl rfl (by kernel_rfl) H (fun w H => (r_idx sl_44 (H.rd h1) rfl rfl g25 g26)) (wa_take (i := 7) (l' := #[true, true, true, true, true, true, true, true, false]) rfl rfl rfl (by kernel_rfl) H (fun w H => (r_ldI sc_3 (H.rd h1) g25 g26 rfl)) (wa_take (i := 8) (l' := #[true, true, true, true, true, true, true, true, true]) rfl rfl rfl (by kernel_rfl) H (fun w H => (r_neq rfl rfl)) (wa_done (by kernel_rfl) (n_thn ?_))))
      refine wc_cond rfl (fun c27 => ?_) (fun c27 => ?_)
      · have E := iT c27 E
        refine rg (v_ rfl (sg (.bool false) rfl) (nl (wc_ret ?_)))
        cases E
        exact (r_bk (r_thn (r_thn (r_bk (r_thn ⟨.inl rfl, _, tk0 rfl ⟨resN rfl (rv_t rv_nil), rfl, H.sub0⟩⟩)))))
      · have E := iF c27 E
        refine wc_skip (n_bk (n_thn (wc_region (v_ rfl (mv (.int .i64 x10) rfl) (v_ rfl (r_add rfl rfl) (v_ rfl (sg (.int .i64 (IntKind.i64.wrap (x10 + 1))) rfl) (wl_nil ?_)))))))
        exact ⟨k18, Nat.lt_succ_self _, _, _, Nat.le_of_succ_le hk19, E, upds_eq ⟨rfl, rfl, rfl, rfl, rfl, trivial⟩, H⟩
    · have E := iF c22 E
      refine wc_exit (x_thn (x_thn (x_bk (n_thn (rg (v_ rfl (sg (.bool true) rfl) (nl (wc_ret ?_))))))))
      cases E
      exact ⟨.inl rfl, _, tk0 rfl ⟨resN rfl (rv_t rv_nil), rfl, H.sub0⟩⟩
def code_Right.f (a0 : Int × Int × Int) : Option (Int) := bif decide (a0.2.1 < 1) then (some 10) else (bif decide (a0.1 ≤ a0.2.1) then (some 10) else (bif decide (255 < a0.1) then (some 10) else (bif decide (a0.2.2 < 0) then (some 10) else (bif decide (255 ≤ a0.2.2) then (some 10) else (some 0)))))
set_option maxRecDepth 100000 in
set_option maxHeartbeats 4000000 in
theorem code_Right.calls {w0 : World} {a0 : Int × Int × Int} {r : Int}  (E : code_Right.f a0 = some r) :
    Calls Try.prog 32 #[.agg #[.int .i64 a0.1, .int .i64 a0.2.1, .int .i64 a0.2.2]] w0 fun e w' => e = .returned (.int .u16 r) ∧ St no w0 w' [] := by
  have H := St.nil no w0
  unfold code_Right.f at E
  refine calls_of_wc (N := 21) (args := [.agg #[.int .i64 a0.1, .int .i64 a0.2.1, .int .i64 a0.2.2]]) Try.func32 rfl rfl (by simp) ?_
  refine rg (e_ rfl (y_boxS (cs := #[.int .i64 a0.1, .int .i64 a0.2.1, .int .i64 a0.2.2]) H rfl (fun b1 w H => (v_ rfl (sg (.int .u16 0) rfl) (nl (wc_seq (wc_block (wc_seq (rg (v_ rfl (r_faddr fa_23_1 rfl) (v_ rfl (r_load sc_3 rfl (blk_cell (H.get 0 rfl) rfl)) (v_ rfl (r_lss rfl rfl) (v_ rfl (sg (.bool (decide (a0.2.1 < 1))) rfl) (nl ?_))))))))))))))
  refine wc_cond rfl (fun c2 => ?_) (fun c2 => ?_)
  · have E := iT c2 E
    refine wc_skip (n_thn (wc_condT2 rfl c2 (rg (v_ rfl (sg (.int .u16 10) rfl) (nl (wc_ret ?_))))))
    cases E
    exact (r_bk (r_thn ⟨.inl rfl, _, tk0 rfl ⟨resN rfl (rv_t rv_nil), rfl, H.sub0⟩⟩))
  · have E := iF c2 E
    refine rg (v_ rfl (r_faddr fa_23_0 rfl) (v_ rfl (r_load sc_3 rfl (blk_cell (H.get 0 rfl) rfl)) (v_ rfl (r_faddr fa_23_1 rfl) (v_ rfl (r_load sc_3 rfl (blk_cell (H.get 0 rfl) rfl)) (v_ rfl (r_leq rfl rfl) (v_ rfl (sg (.bool (decide (a0.1 ≤ a0.2.1))) rfl) (nl ?_)))))))
    refine wc_cond rfl (fun c3 => ?_) (fun c3 => ?_)
    · have E := iT c3 E
      refine wc_skip (n_thn (wc_condT2 rfl c3 (rg (v_ rfl (sg (.int .u16 10) rfl) (nl (wc_ret ?_))))))
      cases E
      exact (r_bk (r_thn ⟨.inl rfl, _, tk0 rfl ⟨resN rfl (rv_t rv_nil), rfl, H.sub0⟩⟩))
    · have E := iF c3 E
      refine rg (v_ rfl (r_faddr fa_23_0 rfl) (v_ rfl (r_load sc_3 rfl (blk_cell (H.get 0 rfl) rfl)) (v_ rfl (r_gtr rfl rfl) (v_ rfl (sg (.bool (decide (255 < a0.1))) rfl) (nl ?_)))))
      refine wc_cond rfl (fun c4 => ?_) (fun c4 => ?_)
      · have E := iT c4 E
        refine wc_skip (n_thn (wc_condT2 rfl c4 (rg (v_ rfl (sg (.int .u16 10) rfl) (nl (wc_ret ?_))))))
        cases E
        exact (r_bk (r_thn ⟨.inl rfl, _, tk0 rfl ⟨resN rfl (rv_t rv_nil), rfl, H.sub0⟩⟩))
      · have E := iF c4 E
        refine rg (v_ rfl (r_faddr fa_23_2 rfl) (v_ rfl (r_load sc_3 rfl (blk_cell (H.get 0 rfl) rfl)) (v_ rfl (r_lss rfl rfl) (v_ rfl (sg (.bool (decide (a0.2.2 < 0))) rfl) (nl ?_)))))
        refine wc_cond rfl (fun c5 => ?_) (fun c5 => ?_)
        · have E := iT c5 E
          refine wc_skip (n_thn (wc_condT2 rfl c5 (rg (v_ rfl (sg (.int .u16 10) rfl) (nl (wc_ret ?_))))))
          cases E
          exact (r_bk (r_thn ⟨.inl rfl, _, tk0 rfl ⟨resN rfl (rv_t rv_nil), rfl, H.sub0⟩⟩))
        · have E := iF c5 E
          refine wc_region (v_ rfl (r_faddr fa_23_2 rfl) (v_ rfl (r_load sc_3 rfl (blk_cell (H.get 0 rfl) rfl)) (v_ rfl (r_geq rfl rfl) (v_ rfl (sg (.bool (decide (255 ≤ a0.2.2))) rfl) (nl ?_)))))
          refine wc_cond rfl (fun c6 => ?_) (fun c6 => ?_)
          · have E := iT c6 E
            refine rg (v_ rfl (sg (.int .u16 10) rfl) (nl (wc_ret ?_)))
            cases E
            exact (r_bk (r_thn ⟨.inl rfl, _, tk0 rfl ⟨resN rfl (rv_t rv_nil), rfl, H.sub0⟩⟩))
          · have E := iF c6 E
            refine wc_skip (n_bk (n_thn (rg (v_ rfl (sg (.int .u16 0) rfl) (nl (wc_ret ?_))))))
            cases E
            exact ⟨.inl rfl, _, tk0 rfl ⟨resN rfl (rv_t rv_nil), rfl, H.sub0⟩⟩
def code_Space.f (a0 : Int × Int × Int) : Option (Int) := (code_Right.f (a0.1, a0.2.1, a0.2.2)).bind fun x2 => bif !decide (x2 = 0) then (some 0) else (some (IntKind.i64.wrap (a0.1 - a0.2.1)))
set_option maxRecDepth 100000 in
set_option maxHeartbeats 4000000 in
theorem code_Space.calls {w0 : World} {a0 : Int × Int × Int} {r : Int}  (E : code_Space.f a0 = some r) :
    Calls Try.prog 36 #[.agg #[.int .i64 a0.1, .int .i64 a0.2.1, .int .i64 a0.2.2]] w0 fun e w' => e = .returned (.int .i64 r) ∧ St no w0 w' [] := by
  have H := St.nil no w0
  unfold code_Space.f at E
  refine calls_of_wc (N := 11) (args := [.agg #[.int .i64 a0.1, .int .i64 a0.2.1, .int .i64 a0.2.2]]) Try.func36 rfl rfl (by simp) ?_
  refine rg (e_ rfl (y_boxS (cs := #[.int .i64 a0.1, .int .i64 a0.2.1, .int .i64 a0.2.2]) H rfl (fun b1 w H => (v_ rfl (sg (.int .i64 0) rfl) (nl (wc_seq (rg (v_ rfl (r_loadB (l := [.int .i64 a0.1, .int .i64 a0.2.1, .int .i64 a0.2.2]) ag_23 (H.get 0 rfl) rfl rfl rfl) ?_))))))))
  obtain ⟨x2, E3, E⟩ := bind_some E
  refine e_ rfl (y_callL en_32 rfl ((code_Right.calls E3).mono ?_))
  rintro _ w ⟨rfl, K⟩
  have H := H.app K
  refine ⟨_, rfl, (v_ rfl (r_neq rfl rfl) (nl ?_))⟩
  refine wc_cond rfl (fun c4 => ?_) (fun c4 => ?_)
  · have E := iT c4 E
    refine rg (v_ rfl (sg (.int .i64 0) rfl) (nl (wc_ret ?_)))
    cases E
    exact (r_thn ⟨.inl rfl, _, tk0 rfl ⟨resN rfl (rv_t rv_nil), rfl, H.sub0⟩⟩)
  · have E := iF c4 E
    refine wc_skip (n_thn (rg (v_ rfl (r_faddr fa_23_0 rfl) (v_ rfl (r_load sc_3 rfl (blk_cell (H.get 0 rfl) rfl)) (v_ rfl (r_faddr fa_23_1 rfl) (v_ rfl (r_load sc_3 rfl (blk_cell (H.get 0 rfl) rfl)) (v_ rfl (r_sub rfl rfl) (v_ rfl (sg (.int .i64 (IntKind.i64.wrap (a0.1 - a0.2.1))) rfl) (nl (wc_ret ?_))))))))))
    cases E
    exact ⟨.inl rfl, _, tk0 rfl ⟨resN rfl (rv_t rv_nil), rfl, H.sub0⟩⟩
end Go.Proofs.Ythfhhnlnlcbckaa.Gw
