/- What these functions compute, and that they do: law22_Hurt, weave_loom_right, weave_loom_sheaf. -/
/- Printed by a program of this project. -/
import Derived.Test.YthfhhnlnlcbckaaQ0
import Derived.Test.YthfhhnlnlcbckaaQg0
namespace Go.Proofs.Ythfhhnlnlcbckaa.Gw
open Go Go.RowKit
set_option linter.unusedVariables false
set_option linter.unusedSimpArgs false
def law22_Hurt.j0 (l1r : List Int → List (Int) → List (Int) → Int → Option (List Int × List Int)) (k : Nat) (a3 : List Int) (l74 : List (Int)) : Option (List Int × List Int) := l1r a3 l74 ([] : List (Int)) 0
def law22_Hurt.j1 (l0r : List Int → List Int → List Int → List (Int) → Int → Option (List Int × List Int)) (k : Nat) (a1 : List Int) (a2 : List Int) (a3 : List Int) (l100 : List (Int)) (x101 : Int) : Option (List Int × List Int) := bif decide (x101 < (a2.length : Int)) then (grd (decide ((0 : Int) ≤ x101 ∧ x101 < (a2.length : Int))) (grd (decide ((0 : Int) ≤ Int.tmod (IntKind.i64.wrap ((IntKind.i64.wrap ((IntKind.i64.wrap (at_ 0 a1 x101)) * 256)) + (IntKind.i64.wrap (at_ 0 a1 (IntKind.i64.wrap (x101 + 1)))))) (l100.length : Int) ∧ Int.tmod (IntKind.i64.wrap ((IntKind.i64.wrap ((IntKind.i64.wrap (at_ 0 a1 x101)) * 256)) + (IntKind.i64.wrap (at_ 0 a1 (IntKind.i64.wrap (x101 + 1)))))) (l100.length : Int) < (l100.length : Int))) (grd (decide ((0 : Int) ≤ Int.tmod (IntKind.i64.wrap ((IntKind.i64.wrap ((IntKind.i64.wrap (at_ 0 a1 x101)) * 256)) + (IntKind.i64.wrap (at_ 0 a1 (IntKind.i64.wrap (x101 + 1)))))) (l100.length : Int) ∧ Int.tmod (IntKind.i64.wrap ((IntKind.i64.wrap ((IntKind.i64.wrap (at_ 0 a1 x101)) * 256)) + (IntKind.i64.wrap (at_ 0 a1 (IntKind.i64.wrap (x101 + 1)))))) (l100.length : Int) < (l100.length : Int))) (l0r a1 a2 a3 (l100.set (Int.tmod (IntKind.i64.wrap ((IntKind.i64.wrap ((IntKind.i64.wrap (at_ 0 a1 x101)) * 256)) + (IntKind.i64.wrap (at_ 0 a1 (IntKind.i64.wrap (x101 + 1)))))) (l100.length : Int)).toNat (bits .xor .u8 (at_ 0 l100 (Int.tmod (IntKind.i64.wrap ((IntKind.i64.wrap ((IntKind.i64.wrap (at_ 0 a1 x101)) * 256)) + (IntKind.i64.wrap (at_ 0 a1 (IntKind.i64.wrap (x101 + 1)))))) (l100.length : Int))) (at_ 0 a2 x101))) (IntKind.i64.wrap (x101 + 2)))))) else (grd (decide ((0 : Int) ≤ Int.tmod (IntKind.i64.wrap ((IntKind.i64.wrap ((IntKind.i64.wrap (at_ 0 a1 x101)) * 256)) + (IntKind.i64.wrap (at_ 0 a1 (IntKind.i64.wrap (x101 + 1)))))) (l100.length : Int) ∧ Int.tmod (IntKind.i64.wrap ((IntKind.i64.wrap ((IntKind.i64.wrap (at_ 0 a1 x101)) * 256)) + (IntKind.i64.wrap (at_ 0 a1 (IntKind.i64.wrap (x101 + 1)))))) (l100.length : Int) < (l100.length : Int))) (grd (decide ((0 : Int) ≤ Int.tmod (IntKind.i64.wrap ((IntKind.i64.wrap ((IntKind.i64.wrap (at_ 0 a1 x101)) * 256)) + (IntKind.i64.wrap (at_ 0 a1 (IntKind.i64.wrap (x101 + 1)))))) (l100.length : Int) ∧ Int.tmod (IntKind.i64.wrap ((IntKind.i64.wrap ((IntKind.i64.wrap (at_ 0 a1 x101)) * 256)) + (IntKind.i64.wrap (at_ 0 a1 (IntKind.i64.wrap (x101 + 1)))))) (l100.length : Int) < (l100.length : Int))) (l0r a1 a2 a3 (l100.set (Int.tmod (IntKind.i64.wrap ((IntKind.i64.wrap ((IntKind.i64.wrap (at_ 0 a1 x101)) * 256)) + (IntKind.i64.wrap (at_ 0 a1 (IntKind.i64.wrap (x101 + 1)))))) (l100.length : Int)).toNat (bits .xor .u8 (at_ 0 l100 (Int.tmod (IntKind.i64.wrap ((IntKind.i64.wrap ((IntKind.i64.wrap (at_ 0 a1 x101)) * 256)) + (IntKind.i64.wrap (at_ 0 a1 (IntKind.i64.wrap (x101 + 1)))))) (l100.length : Int))) 1)) (IntKind.i64.wrap (x101 + 2)))))
mutual
def law22_Hurt.l0 : Nat → List Int → List Int → List Int → List (Int) → Int → Option (List Int × List Int)
  | 0, _, _, _, _, _ => none
  | k + 1, a1, a2, a3, l100, x101 => bif decide (IntKind.i64.wrap (x101 + 1) < (a1.length : Int)) then (bif decide (0 < (l100.length : Int)) then (grd (decide ((0 : Int) ≤ x101 ∧ x101 < (a1.length : Int))) (grd (decide ((0 : Int) ≤ IntKind.i64.wrap (x101 + 1) ∧ IntKind.i64.wrap (x101 + 1) < (a1.length : Int))) (grd (decide ((l100.length : Int) ≠ 0)) (bif decide (Int.tmod (IntKind.i64.wrap ((IntKind.i64.wrap ((IntKind.i64.wrap (at_ 0 a1 x101)) * 256)) + (IntKind.i64.wrap (at_ 0 a1 (IntKind.i64.wrap (x101 + 1)))))) (l100.length : Int) < 10) then (bif decide (0 < Int.tmod x101 8) then (law22_Hurt.l0 k a1 a2 a3 l100 (IntKind.i64.wrap (x101 + 2))) else (law22_Hurt.j1 (law22_Hurt.l0 k) k a1 a2 a3 l100 x101)) else (law22_Hurt.j1 (law22_Hurt.l0 k) k a1 a2 a3 l100 x101))))) else (law22_Hurt.j0 (law22_Hurt.l1 k) k a3 l100)) else (law22_Hurt.j0 (law22_Hurt.l1 k) k a3 l100)
def law22_Hurt.l1 : Nat → List Int → List (Int) → List (Int) → Int → Option (List Int × List Int)
  | 0, _, _, _, _ => none
  | k + 1, a3, l74, l187, x188 => bif decide (x188 < (a3.length : Int)) then (bif decide (0 < (l74.length : Int)) then (grd (decide ((0 : Int) ≤ x188 ∧ x188 < (a3.length : Int))) (grd (decide ((l74.length : Int) ≠ 0)) (bif decide (Int.tmod x188 7 = 6) then (grd (decide ((0 : Int) ≤ x188 ∧ x188 < (a3.length : Int))) (grd (decide ((l187.length + ([IntKind.i64.wrap (at_ 0 a3 x188)]).length) * 8 ≤ 140737488355328)) (law22_Hurt.l1 k a3 l74 (l187 ++ ([IntKind.i64.wrap (at_ 0 a3 x188)])) (IntKind.i64.wrap (x188 + 1))))) else (grd (decide ((l187.length + ([Int.tmod (IntKind.i64.wrap ((IntKind.i64.wrap (at_ 0 a3 x188)) * 3)) (l74.length : Int)]).length) * 8 ≤ 140737488355328)) (law22_Hurt.l1 k a3 l74 (l187 ++ ([Int.tmod (IntKind.i64.wrap ((IntKind.i64.wrap (at_ 0 a3 x188)) * 3)) (l74.length : Int)])) (IntKind.i64.wrap (x188 + 1))))))) else (some (l74, l187))) else (some (l74, l187))
end
def law22_Hurt.f (k : Nat) (a0 : List Int) (a1 : List Int) (a2 : List Int) (a3 : List Int) : Option (List Int × List Int) := grd (decide ((([] : List (Int)).length + a0.length) * 1 ≤ 140737488355328)) (law22_Hurt.l0 k a1 a2 a3 (([] : List (Int)) ++ a0) 0)
set_option maxRecDepth 100000 in
set_option maxHeartbeats 4000000 in
theorem law22_Hurt.calls {w0 : World} {k : Nat} {a0 : List Int} {a1 : List Int} {a2 : List Int} {a3 : List Int} {v0_ : Value} {v1_ : Value} {v2_ : Value} {v3_ : Value} {r : List Int × List Int} (h0 : Rd (.of (.int .u8)) w0 (Ol no w0) v0_ a0) (h1 : Rd (.of (.int .u8)) w0 (Ol no w0) v1_ a1) (h2 : Rd (.of (.int .u8)) w0 (Ol no w0) v2_ a2) (h3 : Rd (.of (.int .u8)) w0 (Ol no w0) v3_ a3) (E : law22_Hurt.f k a0 a1 a2 a3 = some r) :
    Calls Try.prog 27 #[v0_, v1_, v2_, v3_] w0 fun e w' => ∃ (u0 : Value) (u1 : Value), e = .returned (.tuple #[u0, u1]) ∧ St no w0 w' [.own (.int .u8) 5 u0 r.1, .own (.int .i64) 3 u1 r.2] := by
  have H := St.nil no w0
  unfold law22_Hurt.f at E
  refine calls_of_wc (N := 106) (args := [v0_, v1_, v2_, v3_]) Try.func27 rfl rfl (by simp) ?_
  refine rg (v_ rfl (sg (.slice none 0 0) rfl) (v_ rfl (sg (.slice none 0 0) rfl) (nl (rg (v_ rfl (sg (.slice none 0 0) rfl) (nl (rg (v_ rfl (mv (.slice none 0 0) rfl) (v_ rfl (mv v0_ rfl) ?_)))))))))
  have H := H.nilOwn (.int .u8) 5
  obtain ⟨g2, E⟩ := grd_some E
  refine e_ rfl (y_app sl_42 H 0 rfl (H.rd h0) rfl rfl (by omega) (by unfold maxLen; omega) (fun v1 w H => (v_ rfl (sg v1 rfl) (nl ?_))))
  refine wc_seqJ (fun t w => ∃ (k76 : Nat) (l74 : List (Int)) (t75 : Fr), k76 ≤ k ∧ law22_Hurt.j0 (law22_Hurt.l1 k76) k76 a3 l74 = some r ∧ t = upds t75 [(3, v3_), (8, .slice none 0 0), (9, .slice none 0 0), (10, v1), (1000000, undef)] ∧ St no w0 w [.own (.int .u8) 5 v1 l74]) ?_ ?_
  · refine rg (v_ rfl (sg (.int .i64 0) rfl) (nl (wc_block ?_)))
    refine wc_loop (fun kk t w => ∃ (l100 : List (Int)) (x101 : Int) (t126 : Fr), kk ≤ k ∧ law22_Hurt.l0 kk a1 a2 a3 l100 x101 = some r ∧ t = upds t126 [(1, v1_), (2, v2_), (3, v3_), (8, .slice none 0 0), (9, .slice none 0 0), (10, v1), (11, .int .i64 x101), (1000000, undef)] ∧ St no w0 w [.own (.int .u8) 5 v1 l100]) k ?_ ?_
    · exact ⟨_, _, _, Nat.le_refl _, E, upds_eq ⟨rfl, rfl, rfl, rfl, rfl, rfl, rfl, rfl, trivial⟩, H⟩
    rintro kk t w ⟨l100, x101, t126, hk125, E, rfl, H⟩
    obtain ⟨k124, rfl⟩ | rfl : (∃ k', kk = k' + 1) ∨ kk = 0 := by cases kk; exact .inr rfl; exact .inl ⟨_, rfl⟩
    rotate_left
    · cases E
    rw [law22_Hurt.l0] at E
    refine wc_seq (rg (v_ rfl (mv (.int .i64 x101) rfl) (v_ rfl (r_add rfl rfl) (v_ rfl (mv v1_ rfl) (v_ rfl (r_lenR ul_42 (H.rd h1) rfl) (v_ rfl (r_lss rfl rfl) (v_ rfl (mv (.bool (decide (IntKind.i64.wrap (x101 + 1) < (a1.length : Int)))) rfl) ?_)))))))
    rcases Bool.eq_false_or_eq_true (decide (IntKind.i64.wrap (x101 + 1) < (a1.length : Int))) with c129 | c129
    · have E := iT c129 E
      refine on_ c129 rfl rfl (mv v1 rfl) (on_ c129 rfl rfl (r_lenR ul_42 (own_rd (H.get 0 rfl)) rfl) (on_ c129 rfl rfl (r_gtr rfl rfl) (v_ rfl (pT (.bool (decide (0 < (l100.length : Int)))) rfl rfl c129) (nl ?_))))
      refine wc_cond rfl (fun c130 => ?_) (fun c130 => ?_)
      · have E := iT c130 E
        refine wc_skip (n_thn (wc_seq (wc_block (wc_seq (wc_drawnS (ds := []) mo H rfl rfl ?_)))))
        have H := H.drew
        refine wa_take (i := 0) (l' := #[true, false, false, false, false, false, false, false, false, false, false, false, false, false, false, false, false]) rfl rfl rfl (by kernel_rfl) H (fun w H => (mv v1_ rfl)) (wa_take (i := 1) (l' := #[true, true, false, false, false, false, false, false, false, false, false, false, false, false, false, false, false]) rfl rfl rfl (by kernel_rfl) H (fun w H => (mv (.int .i64 x101) rfl)) ?_)
        obtain ⟨⟨g131, g132⟩, E⟩ := grd_some E
        refine wa_take (i := 2) (l' := #[true, true, true, false, false, false, false, false, false, false, false, false, false, false, false, false, false]) rfl rfl rfl (by kernel_rfl) H (fun w H => (r_idx sl_42 (H.rd h1) rfl rfl g131 g132)) (wa_take (i := 3) (l' := #[true, true, true, true, false, false, false, false, false, false, false, false, false, false, false, false, false]) rfl rfl rfl (by kernel_rfl) H (fun w H => (r_ldI sc_5 (H.rd h1) g131 g132 rfl)) (wa_take (i := 4) (l' := #[true, true, true, true, true, false, false, false, false, false, false, false, false, false, false, false, false]) rfl rfl rfl (by kernel_rfl) H (fun w H => (r_conv rfl Try.underlying5 Try.underlying3)) (wa_take (i := 5) (l' := #[true, true, true, true, true, true, false, false, false, false, false, false, false, false, false, false, false]) rfl rfl rfl (by kernel_rfl) H (fun w H => (r_mul rfl rfl)) (wa_take (i := 6) (l' := #[true, true, true, true, true, true, true, false, false, false, false, false, false, false, false, false, false]) rfl rfl rfl (by kernel_rfl) H (fun w H => (mv v1_ rfl)) (wa_take (i := 7) (l' := #[true, true, true, true, true, true, true, true, false, false, false, false, false, false, false, false, false]) rfl rfl rfl (by kernel_rfl) H (fun w H => (mv (.int .i64 x101) rfl)) (wa_take (i := 8) (l' := #[true, true, true, true, true, true, true, true, true, false, false, false, false, false, false, false, false]) rfl rfl rfl (by kernel_rfl) H (fun w H => (r_add rfl rfl)) ?_))))))
        obtain ⟨⟨g133, g134⟩, E⟩ := grd_some E
        refine wa_take (i := 9) (l' := #[true, true, true, true, true, true, true, true, true, true, false, false, false, false, false, false, false]) rfl rfl rfl (by kernel_rfl) H (fun w H => (r_idx sl_42 (H.rd h1) rfl rfl g133 g134)) (wa_take (i := 10) (l' := #[true, true, true, true, true, true, true, true, true, true, true, false, false, false, false, false, false]) rfl rfl rfl (by kernel_rfl) H (fun w H => (r_ldI sc_5 (H.rd h1) g133 g134 rfl)) (wa_take (i := 11) (l' := #[true, true, true, true, true, true, true, true, true, true, true, true, false, false, false, false, false]) rfl rfl rfl (by kernel_rfl) H (fun w H => (r_conv rfl Try.underlying5 Try.underlying3)) (wa_take (i := 12) (l' := #[true, true, true, true, true, true, true, true, true, true, true, true, true, false, false, false, false]) rfl rfl rfl (by kernel_rfl) H (fun w H => (r_add rfl rfl)) (wa_take (i := 13) (l' := #[true, true, true, true, true, true, true, true, true, true, true, true, true, true, false, false, false]) rfl rfl rfl (by kernel_rfl) H (fun w H => (mv v1 rfl)) (wa_take (i := 14) (l' := #[true, true, true, true, true, true, true, true, true, true, true, true, true, true, true, false, false]) rfl rfl rfl (by kernel_rfl) H (fun w H => (r_lenR ul_42 (own_rd (H.get 0 rfl)) rfl)) ?_)))))
        obtain ⟨g135, E⟩ := grd_some E
        refine wa_take (i := 15) (l' := #[true, true, true, true, true, true, true, true, true, true, true, true, true, true, true, true, false]) rfl rfl rfl (by kernel_rfl) H (fun w H => (r_rem rfl rfl g135)) (wa_take (i := 16) (l' := #[true, true, true, true, true, true, true, true, true, true, true, true, true, true, true, true, true]) rfl rfl rfl (by kernel_rfl) H (fun w H => (sg (.int .i64 (Int.tmod (IntKind.i64.wrap ((IntKind.i64.wrap ((IntKind.i64.wrap (at_ 0 a1 x101)) * 256)) + (IntKind.i64.wrap (at_ 0 a1 (IntKind.i64.wrap (x101 + 1)))))) (l100.length : Int))) rfl)) (wa_done (by kernel_rfl) (n_thn ?_)))
        refine wc_seqJ (fun t w => ∃ (k139 : Nat) (t138 : Fr), k139 ≤ k124 ∧ law22_Hurt.j1 (law22_Hurt.l0 k139) k139 a1 a2 a3 l100 x101 = some r ∧ t = upds t138 [(1, v1_), (2, v2_), (3, v3_), (8, .slice none 0 0), (9, .slice none 0 0), (10, v1), (11, .int .i64 x101), (12, .int .i64 (Int.tmod (IntKind.i64.wrap ((IntKind.i64.wrap ((IntKind.i64.wrap (at_ 0 a1 x101)) * 256)) + (IntKind.i64.wrap (at_ 0 a1 (IntKind.i64.wrap (x101 + 1)))))) (l100.length : Int))), (1000000, undef)] ∧ St no w0 w [.own (.int .u8) 5 v1 l100]) ?_ ?_
        · refine rg (v_ rfl (mv (.int .i64 (Int.tmod (IntKind.i64.wrap ((IntKind.i64.wrap ((IntKind.i64.wrap (at_ 0 a1 x101)) * 256)) + (IntKind.i64.wrap (at_ 0 a1 (IntKind.i64.wrap (x101 + 1)))))) (l100.length : Int))) rfl) (v_ rfl (r_lss rfl rfl) (v_ rfl (mv (.bool (decide (Int.tmod (IntKind.i64.wrap ((IntKind.i64.wrap ((IntKind.i64.wrap (at_ 0 a1 x101)) * 256)) + (IntKind.i64.wrap (at_ 0 a1 (IntKind.i64.wrap (x101 + 1)))))) (l100.length : Int) < 10))) rfl) ?_)))
          rcases Bool.eq_false_or_eq_true (decide (Int.tmod (IntKind.i64.wrap ((IntKind.i64.wrap ((IntKind.i64.wrap (at_ 0 a1 x101)) * 256)) + (IntKind.i64.wrap (at_ 0 a1 (IntKind.i64.wrap (x101 + 1)))))) (l100.length : Int) < 10)) with c141 | c141
          · have E := iT c141 E
            refine on_ c141 rfl rfl (mv (.int .i64 x101) rfl) (on_ c141 rfl rfl (r_rem rfl rfl (by decide)) (on_ c141 rfl rfl (r_gtr rfl rfl) (v_ rfl (pT (.bool (decide (0 < Int.tmod x101 8))) rfl rfl c141) (nl ?_))))
            refine wc_cond rfl (fun c142 => ?_) (fun c142 => ?_)
            · have E := iT c142 E
              refine wc_exit (x_thn (x_bk (n_thn (wc_region (v_ rfl (mv (.int .i64 x101) rfl) (v_ rfl (r_add rfl rfl) (v_ rfl (sg (.int .i64 (IntKind.i64.wrap (x101 + 2))) rfl) (wl_nil ?_))))))))
              exact ⟨k124, Nat.lt_succ_self _, _, _, _, Nat.le_of_succ_le hk125, E, upds_eq ⟨rfl, rfl, rfl, rfl, rfl, rfl, rfl, rfl, trivial⟩, H⟩
            · have E := iF c142 E
              refine wc_skip ?_
              exact ⟨k124, _, Nat.le_refl _, E, upds_eq ⟨rfl, rfl, rfl, rfl, rfl, rfl, rfl, rfl, rfl, trivial⟩, H⟩
          · have E := iF c141 E
            refine off_ c141 rfl rfl rfl (off_ c141 rfl rfl rfl (off_ c141 rfl rfl rfl (v_ rfl (pF (.bool false) rfl rfl c141) (nl (wc_condF rfl (wc_skip ?_))))))
            exact ⟨k124, _, Nat.le_refl _, E, upds_eq ⟨rfl, rfl, rfl, rfl, rfl, rfl, rfl, rfl, rfl, trivial⟩, H⟩
        rintro t w ⟨k139, t138, hk140, E, rfl, H⟩
        unfold law22_Hurt.j1 at E
        refine rg (v_ rfl (sg (.int .u8 1) rfl) (nl (wc_seq (rg (v_ rfl (mv (.int .i64 x101) rfl) (v_ rfl (mv v2_ rfl) (v_ rfl (r_lenR ul_42 (H.rd h2) rfl) (v_ rfl (r_lss rfl rfl) (nl ?_)))))))))
        refine wc_cond rfl (fun c143 => ?_) (fun c143 => ?_)
        · have E := iT c143 E
          refine wc_region (v_ rfl (mv v2_ rfl) (v_ rfl (mv (.int .i64 x101) rfl) ?_))
          obtain ⟨⟨g144, g145⟩, E⟩ := grd_some E
          refine v_ rfl (r_idx sl_42 (H.rd h2) rfl rfl g144 g145) (v_ rfl (r_ldI sc_5 (H.rd h2) g144 g145 rfl) (v_ rfl (sg (.int .u8 (at_ 0 a2 x101)) rfl) (nl (wc_region (v_ rfl (mv v1 rfl) (v_ rfl (mv (.int .i64 (Int.tmod (IntKind.i64.wrap ((IntKind.i64.wrap ((IntKind.i64.wrap (at_ 0 a1 x101)) * 256)) + (IntKind.i64.wrap (at_ 0 a1 (IntKind.i64.wrap (x101 + 1)))))) (l100.length : Int))) rfl) (v_ rfl (mv v1 rfl) (v_ rfl (mv (.int .i64 (Int.tmod (IntKind.i64.wrap ((IntKind.i64.wrap ((IntKind.i64.wrap (at_ 0 a1 x101)) * 256)) + (IntKind.i64.wrap (at_ 0 a1 (IntKind.i64.wrap (x101 + 1)))))) (l100.length : Int))) rfl) ?_))))))))
          obtain ⟨⟨g146, g147⟩, E⟩ := grd_some E
          refine v_ rfl (r_idx sl_42 (own_rd (H.get 0 rfl)) rfl rfl g146 g147) (v_ rfl (r_ldI sc_5 (own_rd (H.get 0 rfl)) g146 g147 rfl) (v_ rfl (mv (.int .u8 (at_ 0 a2 x101)) rfl) (v_ rfl (r_xor rfl rfl) ?_)))
          obtain ⟨⟨g148, g149⟩, E⟩ := grd_some E
          refine v_ rfl (r_idx sl_42 (own_rd (H.get 0 rfl)) rfl rfl g148 g149) (s_ (y_storeI sz_5 H 0 rfl g148 g149 rfl rfl (fun w H => (wl_nil (n_bk (n_thn (wc_region (v_ rfl (mv (.int .i64 x101) rfl) (v_ rfl (r_add rfl rfl) (v_ rfl (sg (.int .i64 (IntKind.i64.wrap (x101 + 2))) rfl) (wl_nil ?_)))))))))))
          exact ⟨k139, by omega, _, _, _, by omega, E, upds_eq ⟨rfl, rfl, rfl, rfl, rfl, rfl, rfl, rfl, trivial⟩, H⟩
        · have E := iF c143 E
          refine wc_skip (n_thn (wc_region (v_ rfl (mv v1 rfl) (v_ rfl (mv (.int .i64 (Int.tmod (IntKind.i64.wrap ((IntKind.i64.wrap ((IntKind.i64.wrap (at_ 0 a1 x101)) * 256)) + (IntKind.i64.wrap (at_ 0 a1 (IntKind.i64.wrap (x101 + 1)))))) (l100.length : Int))) rfl) (v_ rfl (mv v1 rfl) (v_ rfl (mv (.int .i64 (Int.tmod (IntKind.i64.wrap ((IntKind.i64.wrap ((IntKind.i64.wrap (at_ 0 a1 x101)) * 256)) + (IntKind.i64.wrap (at_ 0 a1 (IntKind.i64.wrap (x101 + 1)))))) (l100.length : Int))) rfl) ?_))))))
          obtain ⟨⟨g150, g151⟩, E⟩ := grd_some E
          refine v_ rfl (r_idx sl_42 (own_rd (H.get 0 rfl)) rfl rfl g150 g151) (v_ rfl (r_ldI sc_5 (own_rd (H.get 0 rfl)) g150 g151 rfl) (v_ rfl (mv (.int .u8 1) rfl) (v_ rfl (r_xor rfl rfl) ?_)))
          obtain ⟨⟨g152, g153⟩, E⟩ := grd_some E
          refine v_ rfl (r_idx sl_42 (own_rd (H.get 0 rfl)) rfl rfl g152 g153) (s_ (y_storeI sz_5 H 0 rfl g152 g153 rfl rfl (fun w H => (wl_nil (n_bk (n_thn (wc_region (v_ rfl (mv (.int .i64 x101) rfl) (v_ rfl (r_add rfl rfl) (v_ rfl (sg (.int .i64 (IntKind.i64.wrap (x101 + 2))) rfl) (wl_nil ?_)))))))))))
          exact ⟨k139, by omega, _, _, _, by omega, E, upds_eq ⟨rfl, rfl, rfl, rfl, rfl, rfl, rfl, rfl, trivial⟩, H⟩
      · have E := iF c130 E
        refine wc_exit (x_thn (x_thn (x_bk ?_)))
        exact ⟨k124, _, _, by omega, E, upds_eq ⟨rfl, rfl, rfl, rfl, rfl, trivial⟩, H⟩
    · have E := iF c129 E
      refine off_ c129 rfl rfl rfl (off_ c129 rfl rfl rfl (off_ c129 rfl rfl rfl (v_ rfl (pF (.bool false) rfl rfl c129) (nl (wc_condF rfl (wc_exit (x_thn (x_thn (x_bk ?_)))))))))
      exact ⟨k124, _, _, by omega, E, upds_eq ⟨rfl, rfl, rfl, rfl, rfl, trivial⟩, H⟩
  rintro t w ⟨k76, l74, t75, hk77, E, rfl, H⟩
  unfold law22_Hurt.j0 at E
  refine rg (v_ rfl (sg (.slice none 0 0) rfl) (nl (wc_seq (rg (v_ rfl (sg (.int .i64 0) rfl) (nl (wc_block ?_)))))))
  have H := H.nilOwn (.int .i64) 3
  refine wc_loop (fun kk t w => ∃ (l187 : List (Int)) (x188 : Int) (v186 : Value) (t207 : Fr), kk ≤ k76 ∧ law22_Hurt.l1 kk a3 l74 l187 x188 = some r ∧ t = upds t207 [(3, v3_), (8, .slice none 0 0), (9, .slice none 0 0), (10, v1), (14, v186), (15, .int .i64 x188), (1000000, undef)] ∧ St no w0 w [.own (.int .u8) 5 v1 l74, .own (.int .i64) 3 v186 l187]) k76 ?_ ?_
  · exact ⟨_, _, _, _, Nat.le_refl _, E, upds_eq ⟨rfl, rfl, rfl, rfl, rfl, rfl, rfl, trivial⟩, H⟩
  rintro kk t w ⟨l187, x188, v186, t207, hk206, E, rfl, H⟩
  obtain ⟨k205, rfl⟩ | rfl : (∃ k', kk = k' + 1) ∨ kk = 0 := by cases kk; exact .inr rfl; exact .inl ⟨_, rfl⟩
  rotate_left
  · cases E
  rw [law22_Hurt.l1] at E
  refine wc_seq (rg (v_ rfl (mv (.int .i64 x188) rfl) (v_ rfl (mv v3_ rfl) (v_ rfl (r_lenR ul_42 (H.rd h3) rfl) (v_ rfl (r_lss rfl rfl) (v_ rfl (mv (.bool (decide (x188 < (a3.length : Int)))) rfl) ?_))))))
  rcases Bool.eq_false_or_eq_true (decide (x188 < (a3.length : Int))) with c210 | c210
  · have E := iT c210 E
    refine on_ c210 rfl rfl (mv v1 rfl) (on_ c210 rfl rfl (r_lenR ul_42 (own_rd (H.get 0 rfl)) rfl) (on_ c210 rfl rfl (r_gtr rfl rfl) (v_ rfl (pT (.bool (decide (0 < (l74.length : Int)))) rfl rfl c210) (nl ?_))))
    refine wc_cond rfl (fun c211 => ?_) (fun c211 => ?_)
    · have E := iT c211 E
      refine wc_skip (n_thn (wc_seq (wc_block (rg (v_ rfl (mv v3_ rfl) (v_ rfl (mv (.int .i64 x188) rfl) ?_))))))
      obtain ⟨⟨g212, g213⟩, E⟩ := grd_some E
      refine v_ rfl (r_idx sl_42 (H.rd h3) rfl rfl g212 g213) (v_ rfl (r_ldI sc_5 (H.rd h3) g212 g213 rfl) (v_ rfl (r_conv rfl Try.underlying5 Try.underlying3) (v_ rfl (r_mul rfl rfl) (v_ rfl (mv v1 rfl) (v_ rfl (r_lenR ul_42 (own_rd (H.get 0 rfl)) rfl) ?_)))))
      obtain ⟨g214, E⟩ := grd_some E
      refine v_ rfl (r_rem rfl rfl g214) (v_ rfl (sg (.int .i64 (Int.tmod (IntKind.i64.wrap ((IntKind.i64.wrap (at_ 0 a3 x188)) * 3)) (l74.length : Int))) rfl) (nl (wc_seq (rg (v_ rfl (mv (.int .i64 x188) rfl) (v_ rfl (r_rem rfl rfl (by decide)) (v_ rfl (r_eql rfl rfl) (nl ?_))))))))
      refine wc_cond rfl (fun c215 => ?_) (fun c215 => ?_)
      · have E := iT c215 E
        refine wc_region (v_ rfl (mv v3_ rfl) (v_ rfl (mv (.int .i64 x188) rfl) ?_))
        obtain ⟨⟨g216, g217⟩, E⟩ := grd_some E
        refine v_ rfl (r_idx sl_42 (H.rd h3) rfl rfl g216 g217) (v_ rfl (r_ldI sc_5 (H.rd h3) g216 g217 rfl) (v_ rfl (r_conv rfl Try.underlying5 Try.underlying3) (v_ rfl (sg (.int .i64 (IntKind.i64.wrap (at_ 0 a3 x188))) rfl) (nl (wc_region (v_ rfl (mv v186 rfl) (v_ rfl (mv (.int .i64 (IntKind.i64.wrap (at_ 0 a3 x188))) rfl) (e_ rfl (y_bsL (e := (.int .i64)) (l := [IntKind.i64.wrap (at_ 0 a3 x188)]) sl_44 H rfl (by decide) ⟨rfl, rfl, trivial⟩ (by decide) (fun v218 w H => ?_))))))))))
        obtain ⟨g220, E⟩ := grd_some E
        refine e_ rfl (y_app sl_44 H 1 rfl (own_rd (H.get 2 rfl)) rfl rfl (by omega) (by unfold maxLen; omega) (fun v219 w H => (v_ rfl (sg v219 rfl) (wl_nil (n_bk (n_thn (wc_region (v_ rfl (mv (.int .i64 x188) rfl) (v_ rfl (r_add rfl rfl) (v_ rfl (sg (.int .i64 (IntKind.i64.wrap (x188 + 1))) rfl) (wl_nil ?_)))))))))))
        exact ⟨k205, Nat.lt_succ_self _, _, _, _, _, Nat.le_of_succ_le hk206, E, upds_eq ⟨rfl, rfl, rfl, rfl, rfl, rfl, rfl, trivial⟩, H.sel [0, 1] rfl rfl⟩
      · have E := iF c215 E
        refine wc_skip (n_thn (wc_region (v_ rfl (mv v186 rfl) (v_ rfl (mv (.int .i64 (Int.tmod (IntKind.i64.wrap ((IntKind.i64.wrap (at_ 0 a3 x188)) * 3)) (l74.length : Int))) rfl) (e_ rfl (y_bsL (e := (.int .i64)) (l := [Int.tmod (IntKind.i64.wrap ((IntKind.i64.wrap (at_ 0 a3 x188)) * 3)) (l74.length : Int)]) sl_44 H rfl (by decide) ⟨rfl, rfl, trivial⟩ (by decide) (fun v221 w H => ?_)))))))
        obtain ⟨g223, E⟩ := grd_some E
        refine e_ rfl (y_app sl_44 H 1 rfl (own_rd (H.get 2 rfl)) rfl rfl (by omega) (by unfold maxLen; omega) (fun v222 w H => (v_ rfl (sg v222 rfl) (wl_nil (n_bk (n_thn (wc_region (v_ rfl (mv (.int .i64 x188) rfl) (v_ rfl (r_add rfl rfl) (v_ rfl (sg (.int .i64 (IntKind.i64.wrap (x188 + 1))) rfl) (wl_nil ?_)))))))))))
        exact ⟨k205, Nat.lt_succ_self _, _, _, _, _, Nat.le_of_succ_le hk206, E, upds_eq ⟨rfl, rfl, rfl, rfl, rfl, rfl, rfl, trivial⟩, H.sel [0, 1] rfl rfl⟩
    · have E := iF c211 E
      refine wc_exit (x_thn (x_thn (x_bk (n_thn (rg (v_ rfl (mv v1 rfl) (v_ rfl (mv v186 rfl) (v_ rfl (sg v1 rfl) (v_ rfl (sg v186 rfl) (nl (wc_ret ?_)))))))))))
      cases E
      exact ⟨.inl rfl, _, tk0 rfl ⟨resN rfl (rv_t (rv_t rv_nil)), _, _, rfl, H.sub2 0 1 rfl rfl rfl⟩⟩
  · have E := iF c210 E
    refine off_ c210 rfl rfl rfl (off_ c210 rfl rfl rfl (off_ c210 rfl rfl rfl (v_ rfl (pF (.bool false) rfl rfl c210) (nl (wc_condF rfl (wc_exit (x_thn (x_thn (x_bk (n_thn (rg (v_ rfl (mv v1 rfl) (v_ rfl (mv v186 rfl) (v_ rfl (sg v1 rfl) (v_ rfl (sg v186 rfl) (nl (wc_ret ?_)))))))))))))))))
    cases E
    exact ⟨.inl rfl, _, tk0 rfl ⟨resN rfl (rv_t (rv_t rv_nil)), _, _, rfl, H.sub2 0 1 rfl rfl rfl⟩⟩
def weave_loom_right.f (a0 : (Int × Int × Int) × Int) : Option (Int) := bif decide (a0.2 < 1) then (some 10) else (bif decide (255 < a0.2) then (some 10) else ((code_Right.f (a0.1.1, a0.1.2.1, a0.1.2.2)).bind fun x6 => some x6))
set_option maxRecDepth 100000 in
set_option maxHeartbeats 4000000 in
theorem weave_loom_right.calls {w0 : World} {a0 : (Int × Int × Int) × Int} {r : Int}  (E : weave_loom_right.f a0 = some r) :
    Calls Try.prog 66 #[.agg #[.int .i64 a0.1.1, .int .i64 a0.1.2.1, .int .i64 a0.1.2.2, .int .i64 a0.2]] w0 fun e w' => e = .returned (.int .u16 r) ∧ St no w0 w' [] := by
  have H := St.nil no w0
  unfold weave_loom_right.f at E
  refine calls_of_wc (N := 14) (args := [.agg #[.int .i64 a0.1.1, .int .i64 a0.1.2.1, .int .i64 a0.1.2.2, .int .i64 a0.2]]) Try.func66 rfl rfl (by simp) ?_
  refine rg (e_ rfl (y_boxS (cs := #[.int .i64 a0.1.1, .int .i64 a0.1.2.1, .int .i64 a0.1.2.2, .int .i64 a0.2]) H rfl (fun b1 w H => (v_ rfl (sg (.int .u16 0) rfl) (nl (wc_seq (rg (v_ rfl (r_faddr fa_111_1 rfl) (v_ rfl (r_load sc_3 rfl (blk_cell (H.get 0 rfl) rfl)) (v_ rfl (r_lss rfl rfl) (v_ rfl (mv (.bool (decide (a0.2 < 1))) rfl) ?_)))))))))))
  rcases Bool.eq_false_or_eq_true (decide (a0.2 < 1)) with c4 | c4
  · have E := iT c4 E
    refine off_ c4 rfl rfl rfl (off_ c4 rfl rfl rfl (off_ c4 rfl rfl rfl (v_ rfl (pT (.bool true) rfl rfl c4) (nl (wc_condT rfl (rg (v_ rfl (sg (.int .u16 10) rfl) (nl (wc_ret ?_)))))))))
    cases E
    exact (r_thn ⟨.inl rfl, _, tk0 rfl ⟨resN rfl (rv_t rv_nil), rfl, H.sub0⟩⟩)
  · have E := iF c4 E
    refine on_ c4 rfl rfl (r_faddr fa_111_1 rfl) (on_ c4 rfl rfl (r_load sc_3 rfl (blk_cell (H.get 0 rfl) rfl)) (on_ c4 rfl rfl (r_gtr rfl rfl) (v_ rfl (pF (.bool (decide (255 < a0.2))) rfl rfl c4) (nl ?_))))
    refine wc_cond rfl (fun c5 => ?_) (fun c5 => ?_)
    · have E := iT c5 E
      refine rg (v_ rfl (sg (.int .u16 10) rfl) (nl (wc_ret ?_)))
      cases E
      exact (r_thn ⟨.inl rfl, _, tk0 rfl ⟨resN rfl (rv_t rv_nil), rfl, H.sub0⟩⟩)
    · have E := iF c5 E
      refine wc_skip (n_thn (rg (v_ rfl (r_faddr fa_111_0 rfl) (v_ rfl (r_loadB (l := [.int .i64 a0.1.1, .int .i64 a0.1.2.1, .int .i64 a0.1.2.2]) ag_23 (H.get 0 rfl) rfl rfl rfl) ?_))))
      obtain ⟨x6, E7, E⟩ := bind_some E
      refine e_ rfl (y_callL en_32 rfl ((code_Right.calls E7).mono ?_))
      rintro _ w ⟨rfl, K⟩
      have H := H.app K
      refine ⟨_, rfl, (v_ rfl (sg (.int .u16 x6) rfl) (nl (wc_ret ?_)))⟩
      cases E
      exact ⟨.inl rfl, _, tk0 rfl ⟨resN rfl (rv_t rv_nil), rfl, H.sub0⟩⟩
def weave_loom_sheaf.f (a0 : (Int × Int × Int) × Int) : Option (Int) := some (IntKind.i64.wrap (a0.1.1 * a0.2))
set_option maxRecDepth 100000 in
set_option maxHeartbeats 4000000 in
theorem weave_loom_sheaf.calls {w0 : World} {a0 : (Int × Int × Int) × Int} {r : Int}  (E : weave_loom_sheaf.f a0 = some r) :
    Calls Try.prog 67 #[.agg #[.int .i64 a0.1.1, .int .i64 a0.1.2.1, .int .i64 a0.1.2.2, .int .i64 a0.2]] w0 fun e w' => e = .returned (.int .i64 r) ∧ St no w0 w' [] := by
  have H := St.nil no w0
  unfold weave_loom_sheaf.f at E
  refine calls_of_wc (N := 9) (args := [.agg #[.int .i64 a0.1.1, .int .i64 a0.1.2.1, .int .i64 a0.1.2.2, .int .i64 a0.2]]) Try.func67 rfl rfl (by simp) ?_
  refine rg (e_ rfl (y_boxS (cs := #[.int .i64 a0.1.1, .int .i64 a0.1.2.1, .int .i64 a0.1.2.2, .int .i64 a0.2]) H rfl (fun b1 w H => (v_ rfl (sg (.int .i64 0) rfl) (nl (rg (v_ rfl (r_faddr fa_111_0 rfl) (v_ rfl (r_faddr fa_23_0 rfl) (v_ rfl (r_load sc_3 rfl (blk_cell (H.get 0 rfl) rfl)) (v_ rfl (r_faddr fa_111_1 rfl) (v_ rfl (r_load sc_3 rfl (blk_cell (H.get 0 rfl) rfl)) (v_ rfl (r_mul rfl rfl) (v_ rfl (sg (.int .i64 (IntKind.i64.wrap (a0.1.1 * a0.2))) rfl) (nl (wc_ret ?_)))))))))))))))
  cases E
  exact ⟨.inl rfl, _, tk0 rfl ⟨resN rfl (rv_t rv_nil), rfl, H.sub0⟩⟩
end Go.Proofs.Ythfhhnlnlcbckaa.Gw
