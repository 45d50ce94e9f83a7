/- What these functions compute, and that they do: ref05_Coef, ref01_Reduce, ref01_Wide, ref01_Mul, ref01_Inv, ref01_Div, ref05_Add, ref05_Scale, ref06_Div, ref06_Mod. -/
/- Printed by a program of this project. -/
import Derived.Test.YthfhhnlnlcbckaaQ0
import Derived.Test.YthfhhnlnlcbckaaQg2
namespace Go.Proofs.Ythfhhnlnlcbckaa.Gw
open Go Go.RowKit
set_option linter.unusedVariables false
set_option linter.unusedSimpArgs false
def ref05_Coef.f (a0 : List Int) (a1 : Int) : Option (Int) := bif decide (a1 < 0) then (some 0) else (bif decide ((a0.length : Int) ≤ a1) then (some 0) else (grd (decide ((0 : Int) ≤ a1 ∧ a1 < (a0.length : Int))) (some (at_ 0 a0 a1))))
set_option maxRecDepth 100000 in
set_option maxHeartbeats 4000000 in
theorem ref05_Coef.calls {w0 : World} {a0 : List Int} {a1 : Int} {v0_ : Value} {r : Int} (h0 : Rd (.of (.int .u8)) w0 (Ol no w0) v0_ a0) (E : ref05_Coef.f a0 a1 = some r) :
    Calls Try.prog 64 #[v0_, .int .i64 a1] w0 fun e w' => e = .returned (.int .u8 r) ∧ St no w0 w' [] := by
  have H := St.nil no w0
  unfold ref05_Coef.f at E
  refine calls_of_wc (N := 17) (args := [v0_, .int .i64 a1]) Try.func64 rfl rfl (by simp) ?_
  refine rg (v_ rfl (sg (.int .u8 0) rfl) (nl (wc_seq (rg (v_ rfl (mv (.int .i64 a1) rfl) (v_ rfl (r_lss rfl rfl) (v_ rfl (mv (.bool (decide (a1 < 0))) rfl) ?_)))))))
  rcases Bool.eq_false_or_eq_true (decide (a1 < 0)) with c1 | c1
  · have E := iT c1 E
    refine off_ c1 rfl rfl rfl (off_ c1 rfl rfl rfl (off_ c1 rfl rfl rfl (off_ c1 rfl rfl rfl (v_ rfl (pT (.bool true) rfl rfl c1) (nl (wc_condT rfl (rg (v_ rfl (sg (.int .u8 0) rfl) (nl (wc_ret ?_))))))))))
    cases E
    exact (r_thn ⟨.inl rfl, _, tk0 rfl ⟨resN rfl (rv_t rv_nil), rfl, H.sub0⟩⟩)
  · have E := iF c1 E
    refine on_ c1 rfl rfl (mv (.int .i64 a1) rfl) (on_ c1 rfl rfl (mv v0_ rfl) (on_ c1 rfl rfl (r_lenR ul_42 (H.rd h0) rfl) (on_ c1 rfl rfl (r_geq rfl rfl) (v_ rfl (pF (.bool (decide ((a0.length : Int) ≤ a1))) rfl rfl c1) (nl ?_)))))
    refine wc_cond rfl (fun c2 => ?_) (fun c2 => ?_)
    · have E := iT c2 E
      refine rg (v_ rfl (sg (.int .u8 0) rfl) (nl (wc_ret ?_)))
      cases E
      exact (r_thn ⟨.inl rfl, _, tk0 rfl ⟨resN rfl (rv_t rv_nil), rfl, H.sub0⟩⟩)
    · have E := iF c2 E
      refine wc_skip (n_thn (rg (v_ rfl (mv v0_ rfl) (v_ rfl (mv (.int .i64 a1) rfl) ?_))))
      obtain ⟨⟨g3, g4⟩, E⟩ := grd_some E
      refine v_ rfl (r_idx sl_42 (H.rd h0) rfl rfl g3 g4) (v_ rfl (r_ldI sc_5 (H.rd h0) g3 g4 rfl) (v_ rfl (sg (.int .u8 (at_ 0 a0 a1)) rfl) (nl (wc_ret ?_))))
      cases E
      exact ⟨.inl rfl, _, tk0 rfl ⟨resN rfl (rv_t rv_nil), rfl, H.sub0⟩⟩
def ref01_Reduce.l0 : Nat → Int → Int → Option (Int)
  | 0, _, _ => none
  | k + 1, x4, x5 => bif decide (8 ≤ x5) then (grd (decide (0 ≤ IntKind.u64.wrap x5)) (bif decide (Int.tmod (Int.fdiv x4 (2 ^ (min (IntKind.u64.wrap x5).toNat 16))) 2 = 1) then (grd (decide (0 ≤ IntKind.u64.wrap (IntKind.i64.wrap (x5 - 8)))) (ref01_Reduce.l0 k (bits .xor .u16 x4 (IntKind.u16.wrap (285 * 2 ^ (min (IntKind.u64.wrap (IntKind.i64.wrap (x5 - 8))).toNat 16)))) (IntKind.i64.wrap (x5 - 1)))) else (ref01_Reduce.l0 k x4 (IntKind.i64.wrap (x5 - 1))))) else (some (IntKind.u8.wrap x4))
def ref01_Reduce.f (k : Nat) (a0 : Int) : Option (Int) := ref01_Reduce.l0 k a0 15
set_option maxRecDepth 100000 in
set_option maxHeartbeats 4000000 in
theorem ref01_Reduce.calls {w0 : World} {k : Nat} {a0 : Int} {r : Int}  (E : ref01_Reduce.f k a0 = some r) :
    Calls Try.prog 105 #[.int .u16 a0] w0 fun e w' => e = .returned (.int .u8 r) ∧ St no w0 w' [] := by
  have H := St.nil no w0
  unfold ref01_Reduce.f at E
  refine calls_of_wc (N := 22) (args := [.int .u16 a0]) Try.func105 rfl rfl (by simp) ?_
  refine rg (v_ rfl (sg (.int .u8 0) rfl) (nl (wc_seq (rg (v_ rfl (sg (.int .i64 15) rfl) (nl (wc_block ?_)))))))
  refine wc_loop (fun kk t w => ∃ (x4 : Int) (x5 : Int) (t13 : Fr), kk ≤ k ∧ ref01_Reduce.l0 kk x4 x5 = some r ∧ t = upds t13 [(0, .int .u16 x4), (2, .int .u8 0), (3, .int .i64 x5), (1000000, undef)] ∧ St no w0 w []) k ?_ ?_
  · exact ⟨_, _, _, Nat.le_refl _, E, upds_eq ⟨rfl, rfl, rfl, rfl, trivial⟩, H⟩
  rintro kk t w ⟨x4, x5, t13, hk12, E, rfl, H⟩
  obtain ⟨k11, rfl⟩ | rfl : (∃ k', kk = k' + 1) ∨ kk = 0 := by cases kk; exact .inr rfl; exact .inl ⟨_, rfl⟩
  rotate_left
  · cases E
  rw [ref01_Reduce.l0] at E
  refine wc_seq (rg (v_ rfl (mv (.int .i64 x5) rfl) (v_ rfl (r_geq rfl rfl) (nl ?_))))
  refine wc_cond rfl (fun c15 => ?_) (fun c15 => ?_)
  · have E := iT c15 E
    refine wc_skip (n_thn (wc_seq (wc_block (rg (v_ rfl (mv (.int .u16 x4) rfl) (v_ rfl (mv (.int .i64 x5) rfl) (v_ rfl (r_conv rfl Try.underlying3 Try.underlying91) ?_)))))))
    obtain ⟨g16, E⟩ := grd_some E
    refine v_ rfl (r_shr rfl rfl g16) (v_ rfl (r_rem rfl rfl (by decide)) (v_ rfl (r_eql rfl rfl) (nl ?_)))
    refine wc_cond rfl (fun c17 => ?_) (fun c17 => ?_)
    · have E := iT c17 E
      refine wc_region (v_ rfl (mv (.int .u16 x4) rfl) (v_ rfl (mv (.int .i64 x5) rfl) (v_ rfl (r_sub rfl rfl) (v_ rfl (r_conv rfl Try.underlying3 Try.underlying91) ?_))))
      obtain ⟨g18, E⟩ := grd_some E
      refine v_ rfl (r_shl rfl rfl g18) (v_ rfl (r_xor rfl rfl) (v_ rfl (sg (.int .u16 (bits .xor .u16 x4 (IntKind.u16.wrap (285 * 2 ^ (min (IntKind.u64.wrap (IntKind.i64.wrap (x5 - 8))).toNat 16))))) rfl) (wl_nil (n_bk (n_thn (wc_region (v_ rfl (mv (.int .i64 x5) rfl) (v_ rfl (r_sub rfl rfl) (v_ rfl (sg (.int .i64 (IntKind.i64.wrap (x5 - 1))) rfl) (wl_nil ?_))))))))))
      exact ⟨k11, Nat.lt_succ_self _, _, _, _, Nat.le_of_succ_le hk12, E, upds_eq ⟨rfl, rfl, rfl, rfl, trivial⟩, H⟩
    · have E := iF c17 E
      refine wc_skip (n_bk (n_thn (wc_region (v_ rfl (mv (.int .i64 x5) rfl) (v_ rfl (r_sub rfl rfl) (v_ rfl (sg (.int .i64 (IntKind.i64.wrap (x5 - 1))) rfl) (wl_nil ?_)))))))
      exact ⟨k11, Nat.lt_succ_self _, _, _, _, Nat.le_of_succ_le hk12, E, upds_eq ⟨rfl, rfl, rfl, rfl, trivial⟩, H⟩
  · have E := iF c15 E
    refine wc_exit (x_thn (x_thn (x_bk (n_thn (rg (v_ rfl (mv (.int .u16 x4) rfl) (v_ rfl (r_conv rfl Try.underlying31 Try.underlying5) (v_ rfl (sg (.int .u8 (IntKind.u8.wrap x4)) rfl) (nl (wc_ret ?_))))))))))
    cases E
    exact ⟨.inl rfl, _, tk0 rfl ⟨resN rfl (rv_t rv_nil), rfl, H.sub0⟩⟩
def ref01_Wide.l0 : Nat → Int → Int → Int → Int → Option (Int)
  | 0, _, _, _, _ => none
  | k + 1, a0, a1, x4, x5 => bif decide (x5 < 8) then (grd (decide (0 ≤ IntKind.u64.wrap x5)) (bif decide (Int.tmod (Int.fdiv a1 (2 ^ (min (IntKind.u64.wrap x5).toNat 8))) 2 = 1) then (grd (decide (0 ≤ IntKind.u64.wrap x5)) (ref01_Wide.l0 k a0 a1 (bits .xor .u16 x4 (IntKind.u16.wrap ((IntKind.u16.wrap a0) * 2 ^ (min (IntKind.u64.wrap x5).toNat 16)))) (IntKind.i64.wrap (x5 + 1)))) else (ref01_Wide.l0 k a0 a1 x4 (IntKind.i64.wrap (x5 + 1))))) else (some x4)
def ref01_Wide.f (k : Nat) (a0 : Int) (a1 : Int) : Option (Int) := ref01_Wide.l0 k a0 a1 0 0
set_option maxRecDepth 100000 in
set_option maxHeartbeats 4000000 in
theorem ref01_Wide.calls {w0 : World} {k : Nat} {a0 : Int} {a1 : Int} {r : Int}  (E : ref01_Wide.f k a0 a1 = some r) :
    Calls Try.prog 106 #[.int .u8 a0, .int .u8 a1] w0 fun e w' => e = .returned (.int .u16 r) ∧ St no w0 w' [] := by
  have H := St.nil no w0
  unfold ref01_Wide.f at E
  refine calls_of_wc (N := 25) (args := [.int .u8 a0, .int .u8 a1]) Try.func106 rfl rfl (by simp) ?_
  refine rg (v_ rfl (sg (.int .u16 0) rfl) (nl (rg (v_ rfl (sg (.int .u16 0) rfl) (nl (wc_seq (rg (v_ rfl (sg (.int .i64 0) rfl) (nl (wc_block ?_))))))))))
  refine wc_loop (fun kk t w => ∃ (x4 : Int) (x5 : Int) (t13 : Fr), kk ≤ k ∧ ref01_Wide.l0 kk a0 a1 x4 x5 = some r ∧ t = upds t13 [(0, .int .u8 a0), (1, .int .u8 a1), (4, .int .u16 0), (5, .int .u16 x4), (6, .int .i64 x5), (1000000, undef)] ∧ St no w0 w []) k ?_ ?_
  · exact ⟨_, _, _, Nat.le_refl _, E, upds_eq ⟨rfl, rfl, rfl, rfl, rfl, rfl, trivial⟩, H⟩
  rintro kk t w ⟨x4, x5, t13, hk12, E, rfl, H⟩
  obtain ⟨k11, rfl⟩ | rfl : (∃ k', kk = k' + 1) ∨ kk = 0 := by cases kk; exact .inr rfl; exact .inl ⟨_, rfl⟩
  rotate_left
  · cases E
  rw [ref01_Wide.l0] at E
  refine wc_seq (rg (v_ rfl (mv (.int .i64 x5) rfl) (v_ rfl (r_lss rfl rfl) (nl ?_))))
  refine wc_cond rfl (fun c15 => ?_) (fun c15 => ?_)
  · have E := iT c15 E
    refine wc_skip (n_thn (wc_seq (wc_block (rg (v_ rfl (mv (.int .u8 a1) rfl) (v_ rfl (mv (.int .i64 x5) rfl) (v_ rfl (r_conv rfl Try.underlying3 Try.underlying91) ?_)))))))
    obtain ⟨g16, E⟩ := grd_some E
    refine v_ rfl (r_shr rfl rfl g16) (v_ rfl (r_rem rfl rfl (by decide)) (v_ rfl (r_eql rfl rfl) (nl ?_)))
    refine wc_cond rfl (fun c17 => ?_) (fun c17 => ?_)
    · have E := iT c17 E
      refine wc_region (v_ rfl (mv (.int .u16 x4) rfl) (v_ rfl (mv (.int .u8 a0) rfl) (v_ rfl (r_conv rfl Try.underlying5 Try.underlying31) (v_ rfl (mv (.int .i64 x5) rfl) (v_ rfl (r_conv rfl Try.underlying3 Try.underlying91) ?_)))))
      obtain ⟨g18, E⟩ := grd_some E
      refine v_ rfl (r_shl rfl rfl g18) (v_ rfl (r_xor rfl rfl) (v_ rfl (sg (.int .u16 (bits .xor .u16 x4 (IntKind.u16.wrap ((IntKind.u16.wrap a0) * 2 ^ (min (IntKind.u64.wrap x5).toNat 16))))) rfl) (wl_nil (n_bk (n_thn (wc_region (v_ rfl (mv (.int .i64 x5) rfl) (v_ rfl (r_add rfl rfl) (v_ rfl (sg (.int .i64 (IntKind.i64.wrap (x5 + 1))) rfl) (wl_nil ?_))))))))))
      exact ⟨k11, Nat.lt_succ_self _, _, _, _, Nat.le_of_succ_le hk12, E, upds_eq ⟨rfl, rfl, rfl, rfl, rfl, rfl, trivial⟩, H⟩
    · have E := iF c17 E
      refine wc_skip (n_bk (n_thn (wc_region (v_ rfl (mv (.int .i64 x5) rfl) (v_ rfl (r_add rfl rfl) (v_ rfl (sg (.int .i64 (IntKind.i64.wrap (x5 + 1))) rfl) (wl_nil ?_)))))))
      exact ⟨k11, Nat.lt_succ_self _, _, _, _, Nat.le_of_succ_le hk12, E, upds_eq ⟨rfl, rfl, rfl, rfl, rfl, rfl, trivial⟩, H⟩
  · have E := iF c15 E
    refine wc_exit (x_thn (x_thn (x_bk (n_thn (rg (v_ rfl (mv (.int .u16 x4) rfl) (v_ rfl (sg (.int .u16 x4) rfl) (nl (wc_ret ?_)))))))))
    cases E
    exact ⟨.inl rfl, _, tk0 rfl ⟨resN rfl (rv_t rv_nil), rfl, H.sub0⟩⟩
def ref01_Mul.f (k : Nat) (a0 : Int) (a1 : Int) : Option (Int) := (ref01_Wide.f k a0 a1).bind fun x1 => (ref01_Reduce.f k x1).bind fun x3 => some x3
set_option maxRecDepth 100000 in
set_option maxHeartbeats 4000000 in
theorem ref01_Mul.calls {w0 : World} {k : Nat} {a0 : Int} {a1 : Int} {r : Int}  (E : ref01_Mul.f k a0 a1 = some r) :
    Calls Try.prog 102 #[.int .u8 a0, .int .u8 a1] w0 fun e w' => e = .returned (.int .u8 r) ∧ St no w0 w' [] := by
  have H := St.nil no w0
  unfold ref01_Mul.f at E
  refine calls_of_wc (N := 9) (args := [.int .u8 a0, .int .u8 a1]) Try.func102 rfl rfl (by simp) ?_
  refine rg (v_ rfl (sg (.int .u8 0) rfl) (nl (rg (v_ rfl (mv (.int .u8 a0) rfl) (v_ rfl (mv (.int .u8 a1) rfl) ?_)))))
  obtain ⟨x1, E2, E⟩ := bind_some E
  refine e_ rfl (y_callL en_106 rfl ((ref01_Wide.calls E2).mono ?_))
  rintro _ w ⟨rfl, K⟩
  have H := H.app K
  refine ⟨_, rfl, ?_⟩
  obtain ⟨x3, E4, E⟩ := bind_some E
  refine e_ rfl (y_callL en_105 rfl ((ref01_Reduce.calls E4).mono ?_))
  rintro _ w ⟨rfl, K⟩
  have H := H.app K
  refine ⟨_, rfl, (v_ rfl (sg (.int .u8 x3) rfl) (nl (wc_ret ?_)))⟩
  cases E
  exact ⟨.inl rfl, _, tk0 rfl ⟨resN rfl (rv_t rv_nil), rfl, H.sub0⟩⟩
def ref01_Inv.l0 : Nat → Int → Int → Option (Int × Bool)
  | 0, _, _ => none
  | k + 1, a0, x4 => bif decide (x4 < 256) then ((ref01_Mul.f k a0 (IntKind.u8.wrap x4)).bind fun x15 => bif decide (x15 = 1) then (some (IntKind.u8.wrap x4, true)) else (ref01_Inv.l0 k a0 (IntKind.i64.wrap (x4 + 1)))) else (some (0, false))
def ref01_Inv.f (k : Nat) (a0 : Int) : Option (Int × Bool) := ref01_Inv.l0 k a0 0
set_option maxRecDepth 100000 in
set_option maxHeartbeats 4000000 in
theorem ref01_Inv.calls {w0 : World} {k : Nat} {a0 : Int} {r : Int × Bool}  (E : ref01_Inv.f k a0 = some r) :
    Calls Try.prog 101 #[.int .u8 a0] w0 fun e w' => e = .returned (.tuple #[.int .u8 r.1, .bool r.2]) ∧ St no w0 w' [] := by
  have H := St.nil no w0
  unfold ref01_Inv.f at E
  refine calls_of_wc (N := 16) (args := [.int .u8 a0]) Try.func101 rfl rfl (by simp) ?_
  refine rg (v_ rfl (sg (.int .u8 0) rfl) (v_ rfl (sg (.bool false) rfl) (nl (wc_seq (rg (v_ rfl (sg (.int .i64 0) rfl) (nl (wc_block ?_))))))))
  refine wc_loop (fun kk t w => ∃ (x4 : Int) (t12 : Fr), kk ≤ k ∧ ref01_Inv.l0 kk a0 x4 = some r ∧ t = upds t12 [(0, .int .u8 a0), (2, .int .u8 0), (3, .bool false), (4, .int .i64 x4), (1000000, undef)] ∧ St no w0 w []) k ?_ ?_
  · exact ⟨_, _, Nat.le_refl _, E, upds_eq ⟨rfl, rfl, rfl, rfl, rfl, trivial⟩, H⟩
  rintro kk t w ⟨x4, t12, hk11, E, rfl, H⟩
  obtain ⟨k10, rfl⟩ | rfl : (∃ k', kk = k' + 1) ∨ kk = 0 := by cases kk; exact .inr rfl; exact .inl ⟨_, rfl⟩
  rotate_left
  · cases E
  rw [ref01_Inv.l0] at E
  refine wc_seq (rg (v_ rfl (mv (.int .i64 x4) rfl) (v_ rfl (r_lss rfl rfl) (nl ?_))))
  refine wc_cond rfl (fun c14 => ?_) (fun c14 => ?_)
  · have E := iT c14 E
    refine wc_skip (n_thn (wc_seq (wc_block (rg (v_ rfl (mv (.int .u8 a0) rfl) (v_ rfl (mv (.int .i64 x4) rfl) (v_ rfl (r_conv rfl Try.underlying3 Try.underlying5) ?_)))))))
    obtain ⟨x15, E16, E⟩ := bind_some E
    refine e_ rfl (y_callL en_102 rfl ((ref01_Mul.calls E16).mono ?_))
    rintro _ w ⟨rfl, K⟩
    have H := H.app K
    refine ⟨_, rfl, (v_ rfl (r_eql rfl rfl) (nl ?_))⟩
    refine wc_cond rfl (fun c17 => ?_) (fun c17 => ?_)
    · have E := iT c17 E
      refine rg (v_ rfl (mv (.int .i64 x4) rfl) (v_ rfl (r_conv rfl Try.underlying3 Try.underlying5) (v_ rfl (sg (.int .u8 (IntKind.u8.wrap x4)) rfl) (v_ rfl (sg (.bool true) rfl) (nl (wc_ret ?_))))))
      cases E
      exact (r_bk (r_thn (r_thn (r_bk (r_thn ⟨.inl rfl, _, tk0 rfl ⟨resN rfl (rv_t (rv_t rv_nil)), rfl, H.sub0⟩⟩)))))
    · have E := iF c17 E
      refine wc_skip (n_bk (n_thn (wc_region (v_ rfl (mv (.int .i64 x4) rfl) (v_ rfl (r_add rfl rfl) (v_ rfl (sg (.int .i64 (IntKind.i64.wrap (x4 + 1))) rfl) (wl_nil ?_)))))))
      exact ⟨k10, Nat.lt_succ_self _, _, _, Nat.le_of_succ_le hk11, E, upds_eq ⟨rfl, rfl, rfl, rfl, rfl, trivial⟩, H⟩
  · have E := iF c14 E
    refine wc_exit (x_thn (x_thn (x_bk (n_thn (rg (v_ rfl (sg (.int .u8 0) rfl) (v_ rfl (sg (.bool false) rfl) (nl (wc_ret ?_)))))))))
    cases E
    exact ⟨.inl rfl, _, tk0 rfl ⟨resN rfl (rv_t (rv_t rv_nil)), rfl, H.sub0⟩⟩
def ref01_Div.f (k : Nat) (a0 : Int) (a1 : Int) : Option (Int) := (ref01_Inv.f k a1).bind fun x1 => (ref01_Mul.f k a0 x1.1).bind fun x3 => some x3
set_option maxRecDepth 100000 in
set_option maxHeartbeats 4000000 in
theorem ref01_Div.calls {w0 : World} {k : Nat} {a0 : Int} {a1 : Int} {r : Int}  (E : ref01_Div.f k a0 a1 = some r) :
    Calls Try.prog 90 #[.int .u8 a0, .int .u8 a1] w0 fun e w' => e = .returned (.int .u8 r) ∧ St no w0 w' [] := by
  have H := St.nil no w0
  unfold ref01_Div.f at E
  refine calls_of_wc (N := 15) (args := [.int .u8 a0, .int .u8 a1]) Try.func90 rfl rfl (by simp) ?_
  refine rg (v_ rfl (sg (.int .u8 0) rfl) (nl (rg (v_ rfl (mv (.int .u8 a1) rfl) ?_))))
  obtain ⟨x1, E2, E⟩ := bind_some E
  refine e_ rfl (y_callL en_101 rfl ((ref01_Inv.calls E2).mono ?_))
  rintro _ w ⟨rfl, K⟩
  have H := H.app K
  refine ⟨_, rfl, (v_ rfl (r_move) (v_ rfl (r_extract rfl rfl) (v_ rfl (r_extract rfl rfl) (v_ rfl (sg (.int .u8 x1.1) rfl) (v_ rfl (sg (.bool x1.2) rfl) (nl (rg (v_ rfl (mv (.int .u8 a0) rfl) (v_ rfl (mv (.int .u8 x1.1) rfl) ?_)))))))))⟩
  obtain ⟨x3, E4, E⟩ := bind_some E
  refine e_ rfl (y_callL en_102 rfl ((ref01_Mul.calls E4).mono ?_))
  rintro _ w ⟨rfl, K⟩
  have H := H.app K
  refine ⟨_, rfl, (v_ rfl (sg (.int .u8 x3) rfl) (nl (wc_ret ?_)))⟩
  cases E
  exact ⟨.inl rfl, _, tk0 rfl ⟨resN rfl (rv_t rv_nil), rfl, H.sub0⟩⟩
def ref05_Add.l0 : Nat → List Int → List Int → List (Int) → Int → Option (List Int)
  | 0, _, _, _, _ => none
  | k + 1, a0, a1, l20, x21 => bif decide (x21 < max2 (a0.length : Int) (a1.length : Int)) then ((ref05_Coef.f a0 x21).bind fun x36 => (ref05_Coef.f a1 x21).bind fun x38 => grd (decide ((l20.length + ([bits .xor .u8 x36 x38]).length) * 1 ≤ 140737488355328)) (ref05_Add.l0 k a0 a1 (l20 ++ ([bits .xor .u8 x36 x38])) (IntKind.i64.wrap (x21 + 1)))) else ((ref05_Norm.f k l20).bind fun x43 => some x43)
def ref05_Add.f (k : Nat) (a0 : List Int) (a1 : List Int) : Option (List Int) := ref05_Add.l0 k a0 a1 ([] : List (Int)) 0
set_option maxRecDepth 100000 in
set_option maxHeartbeats 4000000 in
theorem ref05_Add.calls {w0 : World} {k : Nat} {a0 : List Int} {a1 : List Int} {v0_ : Value} {v1_ : Value} {r : List Int} (h0 : Rd (.of (.int .u8)) w0 (Ol no w0) v0_ a0) (h1 : Rd (.of (.int .u8)) w0 (Ol no w0) v1_ a1) (E : ref05_Add.f k a0 a1 = some r) :
    Calls Try.prog 91 #[v0_, v1_] w0 fun e w' => ∃ (u0 : Value), e = .returned (u0) ∧ St no w0 w' [.own (.int .u8) 5 u0 r] := by
  have H := St.nil no w0
  unfold ref05_Add.f at E
  refine calls_of_wc (N := 28) (args := [v0_, v1_]) Try.func91 rfl rfl (by simp) ?_
  refine rg (v_ rfl (sg (.slice none 0 0) rfl) (nl (rg (v_ rfl (sg (.slice none 0 0) rfl) (nl (wc_seq (rg (v_ rfl (sg (.int .i64 0) rfl) (nl (wc_block ?_))))))))))
  have H := H.nilOwn (.int .u8) 5
  refine wc_loop (fun kk t w => ∃ (l20 : List (Int)) (x21 : Int) (v19 : Value) (t33 : Fr), kk ≤ k ∧ ref05_Add.l0 kk a0 a1 l20 x21 = some r ∧ t = upds t33 [(0, v0_), (1, v1_), (4, .slice none 0 0), (5, v19), (6, .int .i64 x21), (1000000, undef)] ∧ St no w0 w [.own (.int .u8) 5 v19 l20]) k ?_ ?_
  · exact ⟨_, _, _, _, Nat.le_refl _, E, upds_eq ⟨rfl, rfl, rfl, rfl, rfl, rfl, trivial⟩, H⟩
  rintro kk t w ⟨l20, x21, v19, t33, hk32, E, rfl, H⟩
  obtain ⟨k31, rfl⟩ | rfl : (∃ k', kk = k' + 1) ∨ kk = 0 := by cases kk; exact .inr rfl; exact .inl ⟨_, rfl⟩
  rotate_left
  · cases E
  rw [ref05_Add.l0] at E
  refine wc_seq (rg (v_ rfl (mv (.int .i64 x21) rfl) (v_ rfl (mv v0_ rfl) (v_ rfl (r_lenR ul_42 (H.rd h0) rfl) (v_ rfl (mv v1_ rfl) (v_ rfl (r_lenR ul_42 (H.rd h1) rfl) (v_ rfl (r_max rfl rfl) (v_ rfl (r_lss rfl rfl) (nl ?_)))))))))
  refine wc_cond rfl (fun c35 => ?_) (fun c35 => ?_)
  · have E := iT c35 E
    refine wc_skip (n_thn (wc_seq (wc_block (wc_region (v_ rfl (mv v19 rfl) (v_ rfl (mv v0_ rfl) (v_ rfl (mv (.int .i64 x21) rfl) ?_)))))))
    obtain ⟨x36, E37, E⟩ := bind_some E
    refine e_ rfl (y_callL en_64 rfl ((ref05_Coef.calls (H.arg (H.rd h0)) E37).mono ?_))
    rintro _ w ⟨rfl, K⟩
    have H := H.app K
    refine ⟨_, rfl, (v_ rfl (mv v1_ rfl) (v_ rfl (mv (.int .i64 x21) rfl) ?_))⟩
    obtain ⟨x38, E39, E⟩ := bind_some E
    refine e_ rfl (y_callL en_64 rfl ((ref05_Coef.calls (H.arg (H.rd h1)) E39).mono ?_))
    rintro _ w ⟨rfl, K⟩
    have H := H.app K
    refine ⟨_, rfl, (v_ rfl (r_xor rfl rfl) (e_ rfl (y_bsL (e := (.int .u8)) (l := [bits .xor .u8 x36 x38]) sl_42 H rfl (by decide) ⟨rfl, rfl, trivial⟩ (by decide) (fun v40 w H => ?_))))⟩
    obtain ⟨g42, E⟩ := grd_some E
    refine e_ rfl (y_app sl_42 H 0 rfl (own_rd (H.get 1 rfl)) rfl rfl (by omega) (by unfold maxLen; omega) (fun v41 w H => (v_ rfl (sg v41 rfl) (wl_nil (n_bk (n_thn (wc_region (v_ rfl (mv (.int .i64 x21) rfl) (v_ rfl (r_add rfl rfl) (v_ rfl (sg (.int .i64 (IntKind.i64.wrap (x21 + 1))) rfl) (wl_nil ?_)))))))))))
    exact ⟨k31, Nat.lt_succ_self _, _, _, _, _, Nat.le_of_succ_le hk32, E, upds_eq ⟨rfl, rfl, rfl, rfl, rfl, rfl, trivial⟩, H.sel [0] rfl rfl⟩
  · have E := iF c35 E
    refine wc_exit (x_thn (x_thn (x_bk (n_thn (rg (v_ rfl (mv v19 rfl) ?_))))))
    obtain ⟨x43, E44, E⟩ := bind_some E
    refine e_ rfl (y_callL en_74 rfl ((ref05_Norm.calls (H.own 0 rfl (own_rd (H.get 0 rfl))) E44).mono ?_))
    rintro _ w ⟨v45, rfl, K⟩
    have H := H.app K
    refine ⟨_, rfl, (v_ rfl (sg v45 rfl) (nl (wc_ret ?_)))⟩
    cases E
    exact ⟨.inl rfl, _, tk0 rfl ⟨resN rfl (rv_t rv_nil), _, rfl, H.sub1 1 rfl⟩⟩
def ref05_Scale.l0 : Nat → Int → List Int → List (Int) → Int → Option (List Int)
  | 0, _, _, _, _ => none
  | k + 1, a0, a1, l20, x21 => bif decide (x21 < (a1.length : Int)) then (grd (decide ((0 : Int) ≤ x21 ∧ x21 < (a1.length : Int))) ((ref01_Mul.f k a0 (at_ 0 a1 x21)).bind fun x38 => grd (decide ((l20.length + ([x38]).length) * 1 ≤ 140737488355328)) (ref05_Scale.l0 k a0 a1 (l20 ++ ([x38])) (IntKind.i64.wrap (x21 + 1))))) else ((ref05_Norm.f k l20).bind fun x43 => some x43)
def ref05_Scale.f (k : Nat) (a0 : Int) (a1 : List Int) : Option (List Int) := ref05_Scale.l0 k a0 a1 ([] : List (Int)) 0
set_option maxRecDepth 100000 in
set_option maxHeartbeats 4000000 in
theorem ref05_Scale.calls {w0 : World} {k : Nat} {a0 : Int} {a1 : List Int} {v1_ : Value} {r : List Int} (h1 : Rd (.of (.int .u8)) w0 (Ol no w0) v1_ a1) (E : ref05_Scale.f k a0 a1 = some r) :
    Calls Try.prog 92 #[.int .u8 a0, v1_] w0 fun e w' => ∃ (u0 : Value), e = .returned (u0) ∧ St no w0 w' [.own (.int .u8) 5 u0 r] := by
  have H := St.nil no w0
  unfold ref05_Scale.f at E
  refine calls_of_wc (N := 24) (args := [.int .u8 a0, v1_]) Try.func92 rfl rfl (by simp) ?_
  refine rg (v_ rfl (sg (.slice none 0 0) rfl) (nl (rg (v_ rfl (sg (.slice none 0 0) rfl) (nl (wc_seq (rg (v_ rfl (sg (.int .i64 0) rfl) (nl (wc_block ?_))))))))))
  have H := H.nilOwn (.int .u8) 5
  refine wc_loop (fun kk t w => ∃ (l20 : List (Int)) (x21 : Int) (v19 : Value) (t33 : Fr), kk ≤ k ∧ ref05_Scale.l0 kk a0 a1 l20 x21 = some r ∧ t = upds t33 [(0, .int .u8 a0), (1, v1_), (4, .slice none 0 0), (5, v19), (6, .int .i64 x21), (1000000, undef)] ∧ St no w0 w [.own (.int .u8) 5 v19 l20]) k ?_ ?_
  · exact ⟨_, _, _, _, Nat.le_refl _, E, upds_eq ⟨rfl, rfl, rfl, rfl, rfl, rfl, trivial⟩, H⟩
  rintro kk t w ⟨l20, x21, v19, t33, hk32, E, rfl, H⟩
  obtain ⟨k31, rfl⟩ | rfl : (∃ k', kk = k' + 1) ∨ kk = 0 := by cases kk; exact .inr rfl; exact .inl ⟨_, rfl⟩
  rotate_left
  · cases E
  rw [ref05_Scale.l0] at E
  refine wc_seq (rg (v_ rfl (mv (.int .i64 x21) rfl) (v_ rfl (mv v1_ rfl) (v_ rfl (r_lenR ul_42 (H.rd h1) rfl) (v_ rfl (r_lss rfl rfl) (nl ?_))))))
  refine wc_cond rfl (fun c35 => ?_) (fun c35 => ?_)
  · have E := iT c35 E
    refine wc_skip (n_thn (wc_seq (wc_block (wc_region (v_ rfl (mv v19 rfl) (v_ rfl (mv (.int .u8 a0) rfl) (v_ rfl (mv v1_ rfl) (v_ rfl (mv (.int .i64 x21) rfl) ?_))))))))
    obtain ⟨⟨g36, g37⟩, E⟩ := grd_some E
    refine v_ rfl (r_idx sl_42 (H.rd h1) rfl rfl g36 g37) (v_ rfl (r_ldI sc_5 (H.rd h1) g36 g37 rfl) ?_)
    obtain ⟨x38, E39, E⟩ := bind_some E
    refine e_ rfl (y_callL en_102 rfl ((ref01_Mul.calls E39).mono ?_))
    rintro _ w ⟨rfl, K⟩
    have H := H.app K
    refine ⟨_, rfl, (e_ rfl (y_bsL (e := (.int .u8)) (l := [x38]) sl_42 H rfl (by decide) ⟨rfl, rfl, trivial⟩ (by decide) (fun v40 w H => ?_)))⟩
    obtain ⟨g42, E⟩ := grd_some E
    refine e_ rfl (y_app sl_42 H 0 rfl (own_rd (H.get 1 rfl)) rfl rfl (by omega) (by unfold maxLen; omega) (fun v41 w H => (v_ rfl (sg v41 rfl) (wl_nil (n_bk (n_thn (wc_region (v_ rfl (mv (.int .i64 x21) rfl) (v_ rfl (r_add rfl rfl) (v_ rfl (sg (.int .i64 (IntKind.i64.wrap (x21 + 1))) rfl) (wl_nil ?_)))))))))))
    exact ⟨k31, Nat.lt_succ_self _, _, _, _, _, Nat.le_of_succ_le hk32, E, upds_eq ⟨rfl, rfl, rfl, rfl, rfl, rfl, trivial⟩, H.sel [0] rfl rfl⟩
  · have E := iF c35 E
    refine wc_exit (x_thn (x_thn (x_bk (n_thn (rg (v_ rfl (mv v19 rfl) ?_))))))
    obtain ⟨x43, E44, E⟩ := bind_some E
    refine e_ rfl (y_callL en_74 rfl ((ref05_Norm.calls (H.own 0 rfl (own_rd (H.get 0 rfl))) E44).mono ?_))
    rintro _ w ⟨v45, rfl, K⟩
    have H := H.app K
    refine ⟨_, rfl, (v_ rfl (sg v45 rfl) (nl (wc_ret ?_)))⟩
    cases E
    exact ⟨.inl rfl, _, tk0 rfl ⟨resN rfl (rv_t rv_nil), _, rfl, H.sub1 1 rfl⟩⟩
def ref06_Div.j0 (k : Nat) (l77 : List (Int)) (l78 : List (Int)) : Option (List Int × List Int × Bool) := (ref05_Norm.f k l78).bind fun x146 => some (x146, l77, true)
def ref06_Div.l0 : Nat → List Int → Int → List (Int) → List (Int) → Int → Option (List Int × List Int × Bool)
  | 0, _, _, _, _, _ => none
  | k + 1, a1, x1, l102, l103, x104 => bif decide (x1 ≤ x104) then (grd (decide ((0 : Int) ≤ x1 ∧ x1 < (a1.length : Int))) ((ref05_Coef.f l102 x104).bind fun x131 => (ref01_Div.f k x131 (at_ 0 a1 x1)).bind fun x133 => grd (decide ((0 : Int) ≤ IntKind.i64.wrap (x104 - x1) ∧ IntKind.i64.wrap (x104 - x1) < (l103.length : Int))) ((ref05_Scale.f k x133 a1).bind fun x137 => (ref05_Up.f k x137 (IntKind.i64.wrap (x104 - x1))).bind fun x140 => (ref05_Add.f k l102 x140).bind fun x143 => ref06_Div.l0 k a1 x1 x143 (l103.set (IntKind.i64.wrap (x104 - x1)).toNat x133) (IntKind.i64.wrap (x104 - 1))))) else (ref06_Div.j0 k l102 l103)
def ref06_Div.f (k : Nat) (a0 : List Int) (a1 : List Int) : Option (List Int × List Int × Bool) := (ref05_Deg.f k a1).bind fun x1 => bif decide (x1 < 0) then (some (([] : List (Int)), ([] : List (Int)), false)) else ((ref05_Norm.f k a0).bind fun x5 => grd (decide ((0 : Int) ≤ IntKind.i64.wrap ((a0.length : Int) + 1) ∧ IntKind.i64.wrap ((a0.length : Int) + 1) ≤ IntKind.i64.wrap ((a0.length : Int) + 1) ∧ IntKind.i64.wrap ((a0.length : Int) + 1) ≤ 140737488355328)) (ref06_Div.l0 k a1 x1 x5 (List.replicate (IntKind.i64.wrap ((a0.length : Int) + 1)).toNat (0 : Int)) (a0.length : Int)))
set_option maxRecDepth 100000 in
set_option maxHeartbeats 4000000 in
theorem ref06_Div.calls {w0 : World} {k : Nat} {a0 : List Int} {a1 : List Int} {v0_ : Value} {v1_ : Value} {r : List Int × List Int × Bool} (h0 : Rd (.of (.int .u8)) w0 (Ol no w0) v0_ a0) (h1 : Rd (.of (.int .u8)) w0 (Ol no w0) v1_ a1) (E : ref06_Div.f k a0 a1 = some r) :
    Calls Try.prog 73 #[v0_, v1_] w0 fun e w' => ∃ (u0 : Value) (u1 : Value), e = .returned (.tuple #[u0, u1, .bool r.2.2]) ∧ St no w0 w' [.own (.int .u8) 5 u0 r.1, .own (.int .u8) 5 u1 r.2.1] := by
  have H := St.nil no w0
  unfold ref06_Div.f at E
  refine calls_of_wc (N := 55) (args := [v0_, v1_]) Try.func73 rfl rfl (by simp) ?_
  refine rg (v_ rfl (sg (.slice none 0 0) rfl) (v_ rfl (sg (.slice none 0 0) rfl) (v_ rfl (sg (.bool false) rfl) (nl (rg (v_ rfl (mv v1_ rfl) ?_))))))
  obtain ⟨x1, E2, E⟩ := bind_some E
  refine e_ rfl (y_callL en_89 rfl ((ref05_Deg.calls (H.arg (H.rd h1)) E2).mono ?_))
  rintro _ w ⟨rfl, K⟩
  have H := H.app K
  refine ⟨_, rfl, (v_ rfl (sg (.int .i64 x1) rfl) (nl (wc_seq (rg (v_ rfl (mv (.int .i64 x1) rfl) (v_ rfl (r_lss rfl rfl) (nl ?_)))))))⟩
  refine wc_cond rfl (fun c4 => ?_) (fun c4 => ?_)
  · have E := iT c4 E
    refine rg (v_ rfl (sg (.slice none 0 0) rfl) (v_ rfl (sg (.slice none 0 0) rfl) (v_ rfl (sg (.bool false) rfl) (nl (wc_ret ?_)))))
    have H := H.nilOwn (.int .u8) 5
    have H := H.nilOwn (.int .u8) 5
    cases E
    exact (r_thn ⟨.inl rfl, _, tk0 rfl ⟨resN rfl (rv_t (rv_t (rv_t rv_nil))), _, _, rfl, H.sub2 0 1 rfl rfl rfl⟩⟩)
  · have E := iF c4 E
    refine wc_skip (n_thn (rg (v_ rfl (mv v0_ rfl) ?_)))
    obtain ⟨x5, E6, E⟩ := bind_some E
    refine e_ rfl (y_callL en_74 rfl ((ref05_Norm.calls (H.arg (H.rd h0)) E6).mono ?_))
    rintro _ w ⟨v7, rfl, K⟩
    have H := H.app K
    refine ⟨_, rfl, (v_ rfl (sg v7 rfl) (nl (rg (v_ rfl (mv v0_ rfl) (v_ rfl (r_lenR ul_42 (H.rd h0) rfl) (v_ rfl (r_add rfl rfl) ?_))))))⟩
    obtain ⟨⟨g9, g10, g11⟩, E⟩ := grd_some E
    refine e_ rfl (y_make (e := (.int .u8)) (z0 := 0) sl_42 rfl H rfl rfl g9 g10 (by omega) (by omega) (fun v8 w H => (v_ rfl (sg v8 rfl) (nl ?_))))
    refine wc_seqJ (fun t w => ∃ (k80 : Nat) (l77 : List (Int)) (l78 : List (Int)) (v76 : Value) (t79 : Fr), k80 ≤ k ∧ ref06_Div.j0 k80 l77 l78 = some r ∧ t = upds t79 [(4, .slice none 0 0), (5, .slice none 0 0), (6, .bool false), (8, v76), (9, v8), (1000000, undef)] ∧ St no w0 w [.own (.int .u8) 5 v76 l77, .own (.int .u8) 5 v8 l78]) ?_ ?_
    · refine rg (v_ rfl (mv v0_ rfl) (v_ rfl (r_lenR ul_42 (H.rd h0) rfl) (v_ rfl (sg (.int .i64 (a0.length : Int)) rfl) (nl (wc_block ?_)))))
      refine wc_loop (fun kk t w => ∃ (l102 : List (Int)) (l103 : List (Int)) (x104 : Int) (v101 : Value) (t126 : Fr), kk ≤ k ∧ ref06_Div.l0 kk a1 x1 l102 l103 x104 = some r ∧ t = upds t126 [(1, v1_), (4, .slice none 0 0), (5, .slice none 0 0), (6, .bool false), (7, .int .i64 x1), (8, v101), (9, v8), (10, .int .i64 x104), (1000000, undef)] ∧ St no w0 w [.own (.int .u8) 5 v101 l102, .own (.int .u8) 5 v8 l103]) k ?_ ?_
      · exact ⟨_, _, _, _, _, Nat.le_refl _, E, upds_eq ⟨rfl, rfl, rfl, rfl, rfl, rfl, rfl, rfl, rfl, trivial⟩, H⟩
      rintro kk t w ⟨l102, l103, x104, v101, t126, hk125, E, rfl, H⟩
      obtain ⟨k124, rfl⟩ | rfl : (∃ k', kk = k' + 1) ∨ kk = 0 := by cases kk; exact .inr rfl; exact .inl ⟨_, rfl⟩
      rotate_left
      · cases E
      rw [ref06_Div.l0] at E
      refine wc_seq (rg (v_ rfl (mv (.int .i64 x104) rfl) (v_ rfl (mv (.int .i64 x1) rfl) (v_ rfl (r_geq rfl rfl) (nl ?_)))))
      refine wc_cond rfl (fun c128 => ?_) (fun c128 => ?_)
      · have E := iT c128 E
        refine wc_skip (n_thn (wc_seq (wc_block (wc_seq (wc_drawnS (ds := []) mo H rfl rfl ?_)))))
        have H := H.drew
        refine wa_take (i := 0) (l' := #[true, false, false, false, false, false, false, false, false]) rfl rfl rfl (by kernel_rfl) H (fun w H => (mv v101 rfl)) (wa_take (i := 1) (l' := #[true, true, false, false, false, false, false, false, false]) rfl rfl rfl (by kernel_rfl) H (fun w H => (mv (.int .i64 x104) rfl)) (wa_take (i := 3) (l' := #[true, true, false, true, false, false, false, false, false]) rfl rfl rfl (by kernel_rfl) H (fun w H => (mv v1_ rfl)) (wa_take (i := 4) (l' := #[true, true, false, true, true, false, false, false, false]) rfl rfl rfl (by kernel_rfl) H (fun w H => (mv (.int .i64 x1) rfl)) ?_)))
        obtain ⟨⟨g129, g130⟩, E⟩ := grd_some E
        refine wa_take (i := 5) (l' := #[true, true, false, true, true, true, false, false, false]) rfl rfl rfl (by kernel_rfl) H (fun w H => (r_idx sl_42 (H.rd h1) rfl rfl g129 g130)) (wa_take (i := 6) (l' := #[true, true, false, true, true, true, true, false, false]) rfl rfl rfl (by kernel_rfl) H (fun w H => (r_ldI sc_5 (H.rd h1) g129 g130 rfl)) ?_)
        obtain ⟨x131, E132, E⟩ := bind_some E
        refine wa_one (i := 2) (l' := #[true, true, true, true, true, true, true, false, false]) rfl rfl rfl (by kernel_rfl) (y_callL en_64 rfl ((ref05_Coef.calls (H.own 0 rfl (own_rd (H.get 0 rfl))) E132).mono ?_))
        rintro _ w ⟨rfl, K⟩
        have H := H.app K
        refine ⟨_, rfl, ⟨fun _ => H.sel [0, 1] rfl rfl, ?_⟩⟩
        obtain ⟨x133, E134, E⟩ := bind_some E
        refine wa_one (i := 7) (l' := #[true, true, true, true, true, true, true, true, false]) rfl rfl rfl (by kernel_rfl) (y_callL en_90 rfl ((ref01_Div.calls E134).mono ?_))
        rintro _ w ⟨rfl, K⟩
        have H := H.app K
        refine ⟨_, rfl, ⟨fun _ => H.sel [0, 1] rfl rfl, (wa_take (i := 8) (l' := #[true, true, true, true, true, true, true, true, true]) rfl rfl rfl (by kernel_rfl) (H.sel [0, 1] rfl rfl) (fun w H => (sg (.int .u8 x133) rfl)) (wa_done (by kernel_rfl) (n_thn (rg (v_ rfl (mv v8 rfl) (v_ rfl (mv (.int .i64 x104) rfl) (v_ rfl (mv (.int .i64 x1) rfl) (v_ rfl (r_sub rfl rfl) (v_ rfl (mv (.int .u8 x133) rfl) ?_)))))))))⟩⟩
        obtain ⟨⟨g135, g136⟩, E⟩ := grd_some E
        refine v_ rfl (r_idx sl_42 (own_rd (H.get 1 rfl)) rfl rfl g135 g136) (s_ (y_storeI sz_5 H 1 rfl g135 g136 rfl rfl (fun w H => (nl (wc_region (v_ rfl (mv v101 rfl) (v_ rfl (mv (.int .u8 x133) rfl) (v_ rfl (mv v1_ rfl) ?_))))))))
        obtain ⟨x137, E138, E⟩ := bind_some E
        refine e_ rfl (y_callL en_92 rfl ((ref05_Scale.calls (H.arg (H.rd h1)) E138).mono ?_))
        rintro _ w ⟨v139, rfl, K⟩
        have H := H.app K
        refine ⟨_, rfl, (v_ rfl (mv (.int .i64 x104) rfl) (v_ rfl (mv (.int .i64 x1) rfl) (v_ rfl (r_sub rfl rfl) ?_)))⟩
        obtain ⟨x140, E141, E⟩ := bind_some E
        refine e_ rfl (y_callL en_62 rfl ((ref05_Up.calls (H.own 2 rfl (own_rd (H.get 2 rfl))) E141).mono ?_))
        rintro _ w ⟨v142, rfl, K⟩
        have H := H.app K
        refine ⟨_, rfl, ?_⟩
        have H : St no w0 w [.own (.int .u8) 5 v101 l102, .own (.int .u8) 5 v8 (l103.set (IntKind.i64.wrap (x104 - x1)).toNat x133), .own (.int .u8) 5 v139 x137, .own (.int .u8) 5 v142 x140] := H
        obtain ⟨x143, E144, E⟩ := bind_some E
        refine e_ rfl (y_callL en_91 rfl ((ref05_Add.calls (H.own 0 rfl (own_rd (H.get 0 rfl))) (H.own 3 rfl (own_rd (H.get 3 rfl))) E144).mono ?_))
        rintro _ w ⟨v145, rfl, K⟩
        have H := H.app K
        refine ⟨_, rfl, (v_ rfl (sg v145 rfl) (wl_nil (n_bk (n_thn (wc_region (v_ rfl (mv (.int .i64 x104) rfl) (v_ rfl (r_sub rfl rfl) (v_ rfl (sg (.int .i64 (IntKind.i64.wrap (x104 - 1))) rfl) (wl_nil ?_)))))))))⟩
        exact ⟨k124, Nat.lt_succ_self _, _, _, _, _, _, Nat.le_of_succ_le hk125, E, upds_eq ⟨rfl, rfl, rfl, rfl, rfl, rfl, rfl, rfl, rfl, trivial⟩, H.sel [4, 1] rfl rfl⟩
      · have E := iF c128 E
        refine wc_exit (x_thn (x_thn (x_bk ?_)))
        exact ⟨k124, _, _, _, _, by omega, E, upds_eq ⟨rfl, rfl, rfl, rfl, rfl, rfl, trivial⟩, H⟩
    rintro t w ⟨k80, l77, l78, v76, t79, hk81, E, rfl, H⟩
    unfold ref06_Div.j0 at E
    refine rg (v_ rfl (mv v8 rfl) ?_)
    obtain ⟨x146, E147, E⟩ := bind_some E
    refine e_ rfl (y_callL en_74 rfl ((ref05_Norm.calls (H.own 1 rfl (own_rd (H.get 1 rfl))) E147).mono ?_))
    rintro _ w ⟨v148, rfl, K⟩
    have H := H.app K
    refine ⟨_, rfl, (v_ rfl (mv v76 rfl) (v_ rfl (sg v148 rfl) (v_ rfl (sg v76 rfl) (v_ rfl (sg (.bool true) rfl) (nl (wc_ret ?_))))))⟩
    cases E
    exact ⟨.inl rfl, _, tk0 rfl ⟨resN rfl (rv_t (rv_t (rv_t rv_nil))), _, _, rfl, H.sub2 2 0 rfl rfl rfl⟩⟩
def ref06_Mod.f (k : Nat) (a0 : List Int) (a1 : List Int) : Option (List Int × Bool) := (ref06_Div.f k a0 a1).bind fun x1 => some (x1.2.1, x1.2.2)
set_option maxRecDepth 100000 in
set_option maxHeartbeats 4000000 in
theorem ref06_Mod.calls {w0 : World} {k : Nat} {a0 : List Int} {a1 : List Int} {v0_ : Value} {v1_ : Value} {r : List Int × Bool} (h0 : Rd (.of (.int .u8)) w0 (Ol no w0) v0_ a0) (h1 : Rd (.of (.int .u8)) w0 (Ol no w0) v1_ a1) (E : ref06_Mod.f k a0 a1 = some r) :
    Calls Try.prog 61 #[v0_, v1_] w0 fun e w' => ∃ (u0 : Value), e = .returned (.tuple #[u0, .bool r.2]) ∧ St no w0 w' [.own (.int .u8) 5 u0 r.1] := by
  have H := St.nil no w0
  unfold ref06_Mod.f at E
  refine calls_of_wc (N := 18) (args := [v0_, v1_]) Try.func61 rfl rfl (by simp) ?_
  refine rg (v_ rfl (sg (.slice none 0 0) rfl) (v_ rfl (sg (.bool false) rfl) (nl (rg (v_ rfl (mv v0_ rfl) (v_ rfl (mv v1_ rfl) ?_))))))
  obtain ⟨x1, E2, E⟩ := bind_some E
  refine e_ rfl (y_callL en_73 rfl ((ref06_Div.calls (H.arg (H.rd h0)) (H.arg (H.rd h1)) E2).mono ?_))
  rintro _ w ⟨v3, v4, rfl, K⟩
  have H := H.app K
  refine ⟨_, rfl, (v_ rfl (r_move) (v_ rfl (r_extract rfl rfl) (v_ rfl (r_extract rfl rfl) (v_ rfl (r_extract rfl rfl) (v_ rfl (sg v3 rfl) (v_ rfl (sg v4 rfl) (v_ rfl (sg (.bool x1.2.2) rfl) (nl (rg (v_ rfl (mv v4 rfl) (v_ rfl (mv (.bool x1.2.2) rfl) (v_ rfl (sg v4 rfl) (v_ rfl (sg (.bool x1.2.2) rfl) (nl (wc_ret ?_)))))))))))))))⟩
  cases E
  exact ⟨.inl rfl, _, tk0 rfl ⟨resN rfl (rv_t (rv_t rv_nil)), _, rfl, H.sub1 1 rfl⟩⟩
end Go.Proofs.Ythfhhnlnlcbckaa.Gw
