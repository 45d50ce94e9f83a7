/- erratum/noise.Burst -/
/- PRINTED by gwmain.py of this project. -/
import Derived.Test.YthfhhnlnlcbckaaQ0
namespace Go.Proofs.Ythfhhnlnlcbckaa.Gw
open Go Go.RowKit
set_option linter.unusedVariables false
set_option linter.unusedSimpArgs false
def noise_Burst.l0 : Nat → Int → List Int → (List (Int × Int × Bool × Bool)) → Int → Option ((List (Int × Int × Bool × Bool)))
  | 0, _, _, _, _ => none
  | k + 1, a0, a1, l13, x14 => bif decide (x14 < (a1.length : Int)) then (grd (decide ((0 : Int) ≤ x14 ∧ x14 < (a1.length : Int))) (grd (decide ((0 : Int) ≤ x14 ∧ x14 < (l13.length : Int))) (noise_Burst.l0 k a0 a1 (l13.set x14.toNat (IntKind.i64.wrap (a0 + x14), at_ 0 a1 x14, true, false)) (IntKind.i64.wrap (x14 + 1))))) else (some l13)
def noise_Burst.f (k : Nat) (a0 : Int) (a1 : List Int) : Option ((List (Int × Int × Bool × Bool))) := bif decide (4611686018427387904 < a0) then (some ([] : List (Int × Int × Bool × Bool))) else (grd (decide ((0 : Int) ≤ (a1.length : Int) ∧ (a1.length : Int) ≤ (a1.length : Int) ∧ 16 * (a1.length : Int) ≤ 140737488355328)) (noise_Burst.l0 k a0 a1 (List.replicate (a1.length : Int).toNat ((0, 0, false, false) : Int × Int × Bool × Bool)) 0))
set_option maxRecDepth 100000 in
set_option maxHeartbeats 4000000 in
theorem noise_Burst.calls {w0 : World} {k : Nat} {a0 : Int} {a1 : List Int} {v1_ : Value} {r : (List (Int × Int × Bool × Bool))} (h1 : Rd (.of (.int .u8)) w0 (Ol no w0) v1_ a1) (E : noise_Burst.f k a0 a1 = some r) :
    Calls Try.prog 24 #[.int .i64 a0, v1_] w0 fun e w' => ∃ u0 : Value, e = .returned (u0) ∧ St no w0 w' [.own (.pr (.int .i64) (.pr (.int .u8) (.pr .bool .bool))) 48 u0 r] := by
  have H := St.nil no w0
  unfold noise_Burst.f at E
  refine calls_of_wc (N := 30) (args := [.int .i64 a0, v1_]) Try.func24 rfl rfl (by simp) ?_
  refine rg (v_ rfl (sg (.slice none 0 0) rfl) (nl (wc_seq (rg (v_ rfl (mv (.int .i64 a0) rfl) (v_ rfl (r_gtr rfl rfl) (nl ?_)))))))
  refine wc_cond rfl (fun c2 => ?_) (fun c2 => ?_)
  · have E := iT c2 E
    refine rg (v_ rfl (sg (.slice none 0 0) rfl) (nl (wc_ret ?_)))
    have H := H.nilOwn (.pr (.int .i64) (.pr (.int .u8) (.pr .bool .bool))) 48
    cases E
    exact (r_thn ⟨.inl rfl, _, resN rfl (rv_t rv_nil), _, rfl, H.sub1 0 rfl⟩)
  · have E := iF c2 E
    refine wc_skip (n_thn (rg (v_ rfl (mv v1_ rfl) (v_ rfl (r_lenR ul_42 (H.rd h1) rfl) ?_))))
    obtain ⟨⟨g4, g5, g6⟩, E⟩ := grd_some E
    refine e_ rfl (y_make (e := (.pr (.int .i64) (.pr (.int .u8) (.pr .bool .bool)))) (z0 := (0, 0, false, false)) sl_43 rfl H rfl rfl g4 g5 (by omega) (by omega) (fun v3 w H => (v_ rfl (sg v3 rfl) (nl (wc_seq (rg (v_ rfl (mv v1_ rfl) (v_ rfl (r_lenR ul_42 (H.rd h1) rfl) (v_ rfl (mv (.int .i64 0) rfl) (nl (wc_block ?_)))))))))))
    refine wc_loop (fun kk t w => ∃ (l13 : List (Int × Int × Bool × Bool)) (x14 : Int) (t23 : Fr), kk ≤ k ∧ noise_Burst.l0 kk a0 a1 l13 x14 = some r ∧ t = upds t23 [(0, .int .i64 a0), (4, .slice none 0 0), (5, v3), (13, v1_), (14, .int .i64 (a1.length : Int)), (15, .int .i64 x14)] ∧ St no w0 w [.own (.pr (.int .i64) (.pr (.int .u8) (.pr .bool .bool))) 48 v3 l13]) k ?_ ?_
    · exact ⟨_, _, _, Nat.le_refl _, E, upds_eq ⟨rfl, rfl, rfl, rfl, rfl, rfl, trivial⟩, H⟩
    rintro kk t w ⟨l13, x14, t23, hk22, E, rfl, H⟩
    obtain ⟨k21, rfl⟩ | rfl : (∃ k', kk = k' + 1) ∨ kk = 0 := by cases kk; exact .inr rfl; exact .inl ⟨_, rfl⟩
    rotate_left
    · cases E
    rw [noise_Burst.l0] at E
    refine rg (v_ rfl (r_lss rfl rfl) (nl (wc_seq ?_)))
    refine wc_cond rfl (fun c25 => ?_) (fun c25 => ?_)
    · have E := iT c25 E
      refine wc_skip (n_thn (wc_seq (wc_block (rg (v_ rfl (mv (.int .i64 x14) rfl) ?_)))))
      obtain ⟨⟨g26, g27⟩, E⟩ := grd_some E
      refine v_ rfl (r_idx sl_42 (H.rd h1) rfl rfl g26 g27) (v_ rfl (r_ldI sc_5 (H.rd h1) g26 g27 rfl) (v_ rfl (sg (.int .i64 x14) rfl) (v_ rfl (sg (.int .u8 (at_ 0 a1 x14)) rfl) (nl (wc_region (v_ rfl (mv v3 rfl) (v_ rfl (mv (.int .i64 x14) rfl) (v_ rfl (mv (.int .i64 a0) rfl) (v_ rfl (mv (.int .i64 x14) rfl) (v_ rfl (r_add rfl rfl) (v_ rfl (mv (.int .u8 (at_ 0 a1 x14)) rfl) (v_ rfl (r_build (cs := [.int .i64 (IntKind.i64.wrap (a0 + x14)), .int .u8 (at_ 0 a1 x14), .bool true, .bool false]) bd_48 rfl) ?_))))))))))))
      obtain ⟨⟨g28, g29⟩, E⟩ := grd_some E
      refine v_ rfl (r_idx sl_43 (own_rd (H.get 0 rfl)) rfl rfl g28 g29) (s_ (y_storeA2 (a' := (IntKind.i64.wrap (a0 + x14), at_ 0 a1 x14, true, false)) sz_48 H 0 rfl g28 g29 rfl rfl rfl rfl (fun w H => (wl_nil (n_bk (n_thn (wc_region (v_ rfl (r_add rfl rfl) (v_ rfl (mv (.int .i64 (IntKind.i64.wrap (x14 + 1))) rfl) (wl_nil ?_))))))))))
      exact ⟨k21, Nat.lt_succ_self _, _, _, _, Nat.le_of_succ_le hk22, E, upds_eq ⟨rfl, rfl, rfl, rfl, rfl, rfl, trivial⟩, H⟩
    · have E := iF c25 E
      refine wc_exit (x_thn (x_thn (x_bk (n_thn (rg (v_ rfl (mv v3 rfl) (v_ rfl (sg v3 rfl) (nl (wc_ret ?_)))))))))
      cases E
      exact ⟨.inl rfl, _, resN rfl (rv_t rv_nil), _, rfl, H.sub1 0 rfl⟩
end Go.Proofs.Ythfhhnlnlcbckaa.Gw
