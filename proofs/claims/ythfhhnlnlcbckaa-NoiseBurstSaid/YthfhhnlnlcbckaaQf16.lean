/- erratum/pick.All -/
/- PRINTED by gwmain.py of this project. -/
import Derived.Test.YthfhhnlnlcbckaaQ0
namespace Go.Proofs.Ythfhhnlnlcbckaa.Gw
open Go Go.RowKit
set_option linter.unusedVariables false
set_option linter.unusedSimpArgs false
def pick_All.j0 (l0r : (List (Int × Int)) → Int → Int → Option ((List (Int × Int)))) (k : Nat) (l26 : List (Int × Int)) (x41 : Int) (x42 : Int) : Option ((List (Int × Int))) := grd (decide ((l26.length + ([(x41, x42)]).length) * 16 ≤ 140737488355328)) (bif (x41 == 3) && (x42 == 3) then (some (l26 ++ ([(x41, x42)]))) else (l0r (l26 ++ ([(x41, x42)])) x41 (IntKind.i64.wrap (x42 + 1))))
def pick_All.l0 : Nat → (List (Int × Int)) → Int → Int → Option ((List (Int × Int)))
  | 0, _, _, _ => none
  | k + 1, l26, x27, x28 => bif decide (3 < x28) then (pick_All.j0 (pick_All.l0 k) k l26 (IntKind.i64.wrap (x27 + 1)) 1) else (pick_All.j0 (pick_All.l0 k) k l26 x27 x28)
def pick_All.f (k : Nat)  : Option ((List (Int × Int))) := pick_All.l0 k ([] : List (Int × Int)) 1 1
set_option maxRecDepth 100000 in
set_option maxHeartbeats 4000000 in
theorem pick_All.calls {w0 : World} {k : Nat} {r : (List (Int × Int))}  (E : pick_All.f k  = some r) :
    Calls Try.prog 16 #[] w0 fun e w' => ∃ u0 : Value, e = .returned (u0) ∧ St no w0 w' [.own (.pr (.int .i64) (.int .i64)) 25 u0 r] := by
  have H := St.nil no w0
  unfold pick_All.f at E
  refine calls_of_wc (N := 25) (args := []) Try.func16 rfl rfl (by simp) ?_
  refine rg (v_ rfl (sg (.slice none 0 0) rfl) (nl (rg (v_ rfl (sg (.slice none 0 0) rfl) (nl (rg (v_ rfl (r_build (cs := [.int .i64 1, .int .i64 1]) bd_25 rfl) (e_ rfl (y_allocS zr_25 H (fun b1 w H => (s_ (y_storeBA sz_25 H 0 rfl rfl rfl rfl rfl rfl (fun w H => (nl (wc_block ?_)))))))))))))))
  have H := H.nilOwn (.pr (.int .i64) (.int .i64)) 25
  refine wc_loop (fun kk t w => ∃ (l26 : List (Int × Int)) (x27 : Int) (x28 : Int) (b24 : Nat) (v25 : Value) (t39 : Fr), kk ≤ k ∧ pick_All.l0 kk l26 x27 x28 = some r ∧ t = upds t39 [(0, .slice none 0 0), (1, v25), (2, .pointer (some ⟨b24, 0, none⟩))] ∧ St no w0 w [.blk b24 #[.int .i64 x27, .int .i64 x28] 25, .own (.pr (.int .i64) (.int .i64)) 25 v25 l26]) k ?_ ?_
  · exact ⟨_, _, _, _, _, _, Nat.le_refl _, E, upds_eq ⟨rfl, rfl, rfl, trivial⟩, H⟩
  rintro kk t w ⟨l26, x27, x28, b24, v25, t39, hk38, E, rfl, H⟩
  obtain ⟨k37, rfl⟩ | rfl : (∃ k', kk = k' + 1) ∨ kk = 0 := by cases kk; exact .inr rfl; exact .inl ⟨_, rfl⟩
  rotate_left
  · cases E
  rw [pick_All.l0] at E
  refine wc_seq (wc_block ?_)
  refine wc_seqJ (fun t w => ∃ (k44 : Nat) (x41 : Int) (x42 : Int) (t43 : Fr), k44 ≤ k37 ∧ pick_All.j0 (pick_All.l0 k44) k44 l26 x41 x42 = some r ∧ t = upds t43 [(0, .slice none 0 0), (1, v25), (2, .pointer (some ⟨b24, 0, none⟩))] ∧ St no w0 w [.blk b24 #[.int .i64 x41, .int .i64 x42] 25, .own (.pr (.int .i64) (.int .i64)) 25 v25 l26]) ?_ ?_
  · refine rg (v_ rfl (r_faddr fa_25_1 rfl) (v_ rfl (r_load sc_3 rfl (blk_cell (H.get 0 rfl) rfl)) (v_ rfl (r_gtr rfl rfl) (nl ?_))))
    refine wc_cond rfl (fun c46 => ?_) (fun c46 => ?_)
    · have E := iT c46 E
      refine wc_region (v_ rfl (r_faddr fa_25_0 rfl) (v_ rfl (r_load sc_3 rfl (blk_cell (H.get 0 rfl) rfl)) (v_ rfl (r_add rfl rfl) (v_ rfl (r_faddr fa_25_0 rfl) (s_ (y_storeB sz_3 H 0 rfl rfl rfl rfl rfl (fun w H => (v_ rfl (r_faddr fa_25_1 rfl) (s_ (y_storeB sz_3 H 0 rfl rfl rfl rfl rfl (fun w H => (wl_nil ?_))))))))))))
      exact ⟨k37, _, _, _, Nat.le_refl _, E, upds_eq ⟨rfl, rfl, rfl, trivial⟩, H⟩
    · have E := iF c46 E
      refine wc_skip ?_
      exact ⟨k37, _, _, _, Nat.le_refl _, E, upds_eq ⟨rfl, rfl, rfl, trivial⟩, H⟩
  rintro t w ⟨k44, x41, x42, t43, hk45, E, rfl, H⟩
  unfold pick_All.j0 at E
  refine rg (v_ rfl (mv v25 rfl) (v_ rfl (r_loadB (l := [.int .i64 x41, .int .i64 x42]) ag_25 (H.get 0 rfl) rfl rfl rfl) (e_ rfl (y_bsL (e := (.pr (.int .i64) (.int .i64))) (l := [(x41, x42)]) sl_35 H rfl (by decide) ⟨rfl, rfl, trivial⟩ (by decide) (fun v47 w H => ?_)))))
  obtain ⟨g49, E⟩ := grd_some E
  refine e_ rfl (y_app sl_35 H 1 rfl (own_rd (H.get 2 rfl)) rfl rfl (by omega) (by unfold maxLen; omega) (fun v48 w H => (v_ rfl (sg v48 rfl) (nl (rg (v_ rfl (r_loadB (l := [.int .i64 x41, .int .i64 x42]) ag_25 (H.get 0 rfl) rfl rfl rfl) (v_ rfl (r_build (cs := [.int .i64 3, .int .i64 3]) bd_25 rfl) (v_ rfl (r_eqlA (by kernel_rfl) (eqs0_25 _ x41 3 x42 3) rfl rfl) (nl ?_)))))))))
  refine wc_cond rfl (fun c50 => ?_) (fun c50 => ?_)
  · have E := iT c50 E
    refine rg (v_ rfl (mv v48 rfl) (v_ rfl (sg v48 rfl) (nl (wc_ret ?_))))
    cases E
    exact (r_bk (r_thn (r_thn (r_bk ⟨.inl rfl, _, resN rfl (rv_t rv_nil), _, rfl, H.sub1 1 rfl⟩))))
  · have E := iF c50 E
    refine wc_skip (n_bk (n_thn (wc_seq (rg (v_ rfl (r_loadB (l := [.int .i64 x41, .int .i64 x42]) ag_25 (H.get 0 rfl) rfl rfl rfl) (nl (wc_region (e_ rfl (y_allocS zr_25 H (fun b51 w H => (s_ (y_storeBA sz_25 H 3 rfl rfl rfl rfl rfl rfl (fun w H => (nl (wc_region (v_ rfl (r_faddr fa_25_1 rfl) (v_ rfl (r_load sc_3 rfl (blk_cell (H.get 3 rfl) rfl)) (v_ rfl (r_add rfl rfl) (v_ rfl (r_faddr fa_25_1 rfl) (s_ (y_storeB sz_3 H 3 rfl rfl rfl rfl rfl (fun w H => (wl_nil ?_)))))))))))))))))))))))
    exact ⟨k44, by omega, _, _, _, _, _, _, by omega, E, upds_eq ⟨rfl, rfl, rfl, trivial⟩, H.sel [3, 1] rfl rfl⟩
end Go.Proofs.Ythfhhnlnlcbckaa.Gw
