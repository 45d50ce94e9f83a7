/- What these functions compute, and that they do: ref05_Mul, ref07_From, ref01_Pow, ref10_Point, ref10_Roots, ref10_Generator, ref11_Encode, ref21_Spot. -/
/- Printed by a program of this project. -/
import Derived.Test.YthfhhnlnlcbckaaQ0
import Derived.Test.YthfhhnlnlcbckaaQg2
import Derived.Test.YthfhhnlnlcbckaaQg3
namespace Go.Proofs.Ythfhhnlnlcbckaa.Gw
open Go Go.RowKit
set_option linter.unusedVariables false
set_option linter.unusedSimpArgs false
mutual
def ref05_Mul.l0 : Nat → List Int → List Int → List (Int) → Int → Option (List Int)
  | 0, _, _, _, _ => none
  | k + 1, a0, a1, l48, x49 => bif decide (x49 < (a0.length : Int)) then (ref05_Mul.l1 k a0 a1 x49 l48 0) else ((ref05_Norm.f k l48).bind fun x139 => some x139)
def ref05_Mul.l1 : Nat → List Int → List Int → Int → List (Int) → Int → Option (List Int)
  | 0, _, _, _, _, _ => none
  | k + 1, a0, a1, x49, l110, x111 => bif decide (x111 < (a1.length : Int)) then (grd (decide ((0 : Int) ≤ IntKind.i64.wrap (x49 + x111) ∧ IntKind.i64.wrap (x49 + x111) < (l110.length : Int))) (grd (decide ((0 : Int) ≤ x49 ∧ x49 < (a0.length : Int))) (grd (decide ((0 : Int) ≤ x111 ∧ x111 < (a1.length : Int))) ((ref01_Mul.f k (at_ 0 a0 x49) (at_ 0 a1 x111)).bind fun x135 => grd (decide ((0 : Int) ≤ IntKind.i64.wrap (x49 + x111) ∧ IntKind.i64.wrap (x49 + x111) < (l110.length : Int))) (ref05_Mul.l1 k a0 a1 x49 (l110.set (IntKind.i64.wrap (x49 + x111)).toNat (bits .xor .u8 (at_ 0 l110 (IntKind.i64.wrap (x49 + x111))) x135)) (IntKind.i64.wrap (x111 + 1))))))) else (ref05_Mul.l0 k a0 a1 l110 (IntKind.i64.wrap (x49 + 1)))
end
def ref05_Mul.f (k : Nat) (a0 : List Int) (a1 : List Int) : Option (List Int) := grd (decide ((0 : Int) ≤ IntKind.i64.wrap ((a0.length : Int) + (a1.length : Int)) ∧ IntKind.i64.wrap ((a0.length : Int) + (a1.length : Int)) ≤ IntKind.i64.wrap ((a0.length : Int) + (a1.length : Int)) ∧ IntKind.i64.wrap ((a0.length : Int) + (a1.length : Int)) ≤ 140737488355328)) (ref05_Mul.l0 k a0 a1 (List.replicate (IntKind.i64.wrap ((a0.length : Int) + (a1.length : Int))).toNat (0 : Int)) 0)
set_option maxRecDepth 100000 in
set_option maxHeartbeats 4000000 in
theorem ref05_Mul.calls {w0 : World} {k : Nat} {a0 : List Int} {a1 : List Int} {v0_ : Value} {v1_ : Value} {r : List Int} (h0 : Rd (.of (.int .u8)) w0 (Ol no w0) v0_ a0) (h1 : Rd (.of (.int .u8)) w0 (Ol no w0) v1_ a1) (E : ref05_Mul.f k a0 a1 = some r) :
    Calls Try.prog 93 #[v0_, v1_] w0 fun e w' => ∃ (u0 : Value), e = .returned (u0) ∧ St no w0 w' [.own (.int .u8) 5 u0 r] := by
  have H := St.nil no w0
  unfold ref05_Mul.f at E
  refine calls_of_wc (N := 49) (args := [v0_, v1_]) Try.func93 rfl rfl (by simp) ?_
  refine rg (v_ rfl (sg (.slice none 0 0) rfl) (nl (rg (v_ rfl (mv v0_ rfl) (v_ rfl (r_lenR ul_42 (H.rd h0) rfl) (v_ rfl (mv v1_ rfl) (v_ rfl (r_lenR ul_42 (H.rd h1) rfl) (v_ rfl (r_add rfl rfl) ?_))))))))
  obtain ⟨⟨g2, g3, g4⟩, E⟩ := grd_some E
  refine e_ rfl (y_make (e := (.int .u8)) (z0 := 0) sl_42 rfl H rfl rfl g2 g3 (by omega) (by omega) (fun v1 w H => (v_ rfl (sg v1 rfl) (nl (wc_seq (rg (v_ rfl (sg (.int .i64 0) rfl) (nl (wc_block ?_)))))))))
  refine wc_loop (fun kk t w => ∃ (l48 : List (Int)) (x49 : Int) (t95 : Fr), kk ≤ k ∧ ref05_Mul.l0 kk a0 a1 l48 x49 = some r ∧ t = upds t95 [(0, v0_), (1, v1_), (4, .slice none 0 0), (5, v1), (6, .int .i64 x49), (1000000, undef)] ∧ St no w0 w [.own (.int .u8) 5 v1 l48]) k ?_ ?_
  · exact ⟨_, _, _, Nat.le_refl _, E, upds_eq ⟨rfl, rfl, rfl, rfl, rfl, rfl, trivial⟩, H⟩
  rintro kk t w ⟨l48, x49, t95, hk94, E, rfl, H⟩
  obtain ⟨k93, rfl⟩ | rfl : (∃ k', kk = k' + 1) ∨ kk = 0 := by cases kk; exact .inr rfl; exact .inl ⟨_, rfl⟩
  rotate_left
  · cases E
  rw [ref05_Mul.l0] at E
  refine wc_seq (rg (v_ rfl (mv (.int .i64 x49) rfl) (v_ rfl (mv v0_ rfl) (v_ rfl (r_lenR ul_42 (H.rd h0) rfl) (v_ rfl (r_lss rfl rfl) (nl ?_))))))
  refine wc_cond rfl (fun c97 => ?_) (fun c97 => ?_)
  · have E := iT c97 E
    refine wc_skip (n_thn (wc_seq (wc_block (rg (v_ rfl (sg (.int .i64 0) rfl) (nl (wc_block ?_)))))))
    refine wc_loop (fun kk t w => ∃ (l110 : List (Int)) (x111 : Int) (t126 : Fr), kk ≤ k93 ∧ ref05_Mul.l1 kk a0 a1 x49 l110 x111 = some r ∧ t = upds t126 [(0, v0_), (1, v1_), (4, .slice none 0 0), (5, v1), (6, .int .i64 x49), (7, .int .i64 x111), (1000000, undef)] ∧ St no w0 w [.own (.int .u8) 5 v1 l110]) k93 ?_ ?_
    · exact ⟨_, _, _, Nat.le_refl _, E, upds_eq ⟨rfl, rfl, rfl, rfl, rfl, rfl, rfl, trivial⟩, H⟩
    rintro kk t w ⟨l110, x111, t126, hk125, E, rfl, H⟩
    obtain ⟨k124, rfl⟩ | rfl : (∃ k', kk = k' + 1) ∨ kk = 0 := by cases kk; exact .inr rfl; exact .inl ⟨_, rfl⟩
    rotate_left
    · cases E
    rw [ref05_Mul.l1] at E
    refine wc_seq (rg (v_ rfl (mv (.int .i64 x111) rfl) (v_ rfl (mv v1_ rfl) (v_ rfl (r_lenR ul_42 (H.rd h1) rfl) (v_ rfl (r_lss rfl rfl) (nl ?_))))))
    refine wc_cond rfl (fun c128 => ?_) (fun c128 => ?_)
    · have E := iT c128 E
      refine wc_skip (n_thn (wc_seq (wc_block (wc_drawnS (ds := [21]) mo H rfl rfl ?_))))
      have H := H.drew
      refine wa_take (i := 0) (l' := #[true, false, false, false, false, false, false, false, false, false, false, false, false, false, false, false, false, false, false, false, false, false]) rfl rfl rfl (by kernel_rfl) H (fun w H => (mv v1 rfl)) (wa_take (i := 1) (l' := #[true, true, false, false, false, false, false, false, false, false, false, false, false, false, false, false, false, false, false, false, false, false]) rfl rfl rfl (by kernel_rfl) H (fun w H => (mv (.int .i64 x49) rfl)) (wa_take (i := 2) (l' := #[true, true, true, false, false, false, false, false, false, false, false, false, false, false, false, false, false, false, false, false, false, false]) rfl rfl rfl (by kernel_rfl) H (fun w H => (mv (.int .i64 x111) rfl)) (wa_take (i := 3) (l' := #[true, true, true, true, false, false, false, false, false, false, false, false, false, false, false, false, false, false, false, false, false, false]) rfl rfl rfl (by kernel_rfl) H (fun w H => (r_add rfl rfl)) (wa_take (i := 4) (l' := #[true, true, true, true, true, false, false, false, false, false, false, false, false, false, false, false, false, false, false, false, false, false]) rfl rfl rfl (by kernel_rfl) H (fun w H => (mv v1 rfl)) (wa_take (i := 5) (l' := #[true, true, true, true, true, true, false, false, false, false, false, false, false, false, false, false, false, false, false, false, false, false]) rfl rfl rfl (by kernel_rfl) H (fun w H => (mv (.int .i64 x49) rfl)) (wa_take (i := 6) (l' := #[true, true, true, true, true, true, true, false, false, false, false, false, false, false, false, false, false, false, false, false, false, false]) rfl rfl rfl (by kernel_rfl) H (fun w H => (mv (.int .i64 x111) rfl)) (wa_take (i := 7) (l' := #[true, true, true, true, true, true, true, true, false, false, false, false, false, false, false, false, false, false, false, false, false, false]) rfl rfl rfl (by kernel_rfl) H (fun w H => (r_add rfl rfl)) ?_)))))))
      obtain ⟨⟨g129, g130⟩, E⟩ := grd_some E
      refine wa_take (i := 8) (l' := #[true, true, true, true, true, true, true, true, true, false, false, false, false, false, false, false, false, false, false, false, false, false]) rfl rfl rfl (by kernel_rfl) H (fun w H => (r_idx sl_42 (own_rd (H.get 0 rfl)) rfl rfl g129 g130)) (wa_take (i := 9) (l' := #[true, true, true, true, true, true, true, true, true, true, false, false, false, false, false, false, false, false, false, false, false, false]) rfl rfl rfl (by kernel_rfl) H (fun w H => (r_ldI sc_5 (own_rd (H.get 0 rfl)) g129 g130 rfl)) (wa_take (i := 10) (l' := #[true, true, true, true, true, true, true, true, true, true, true, false, false, false, false, false, false, false, false, false, false, false]) rfl rfl rfl (by kernel_rfl) H (fun w H => (mv v0_ rfl)) (wa_take (i := 11) (l' := #[true, true, true, true, true, true, true, true, true, true, true, true, false, false, false, false, false, false, false, false, false, false]) rfl rfl rfl (by kernel_rfl) H (fun w H => (mv (.int .i64 x49) rfl)) ?_)))
      obtain ⟨⟨g131, g132⟩, E⟩ := grd_some E
      refine wa_take (i := 12) (l' := #[true, true, true, true, true, true, true, true, true, true, true, true, true, false, false, false, false, false, false, false, false, false]) rfl rfl rfl (by kernel_rfl) H (fun w H => (r_idx sl_42 (H.rd h0) rfl rfl g131 g132)) (wa_take (i := 13) (l' := #[true, true, true, true, true, true, true, true, true, true, true, true, true, true, false, false, false, false, false, false, false, false]) rfl rfl rfl (by kernel_rfl) H (fun w H => (r_ldI sc_5 (H.rd h0) g131 g132 rfl)) (wa_take (i := 14) (l' := #[true, true, true, true, true, true, true, true, true, true, true, true, true, true, true, false, false, false, false, false, false, false]) rfl rfl rfl (by kernel_rfl) H (fun w H => (mv v1_ rfl)) (wa_take (i := 15) (l' := #[true, true, true, true, true, true, true, true, true, true, true, true, true, true, true, true, false, false, false, false, false, false]) rfl rfl rfl (by kernel_rfl) H (fun w H => (mv (.int .i64 x111) rfl)) ?_)))
      obtain ⟨⟨g133, g134⟩, E⟩ := grd_some E
      refine wa_take (i := 16) (l' := #[true, true, true, true, true, true, true, true, true, true, true, true, true, true, true, true, true, false, false, false, false, false]) rfl rfl rfl (by kernel_rfl) H (fun w H => (r_idx sl_42 (H.rd h1) rfl rfl g133 g134)) (wa_take (i := 17) (l' := #[true, true, true, true, true, true, true, true, true, true, true, true, true, true, true, true, true, true, false, false, false, false]) rfl rfl rfl (by kernel_rfl) H (fun w H => (r_ldI sc_5 (H.rd h1) g133 g134 rfl)) ?_)
      obtain ⟨x135, E136, E⟩ := bind_some E
      refine wa_one (i := 18) (l' := #[true, true, true, true, true, true, true, true, true, true, true, true, true, true, true, true, true, true, true, false, false, false]) rfl rfl rfl (by kernel_rfl) (y_callL en_102 rfl ((ref01_Mul.calls E136).mono ?_))
      rintro _ w ⟨rfl, K⟩
      have H := H.app K
      refine ⟨_, rfl, ⟨fun _ => H.sel [0] rfl rfl, (wa_take (i := 19) (l' := #[true, true, true, true, true, true, true, true, true, true, true, true, true, true, true, true, true, true, true, true, false, false]) rfl rfl rfl (by kernel_rfl) (H.sel [0] rfl rfl) (fun w H => (r_xor rfl rfl)) ?_)⟩⟩
      obtain ⟨⟨g137, g138⟩, E⟩ := grd_some E
      refine wa_take (i := 20) (l' := #[true, true, true, true, true, true, true, true, true, true, true, true, true, true, true, true, true, true, true, true, true, false]) rfl rfl rfl (by kernel_rfl) (H.sel [0] rfl rfl) (fun w H => (r_idx sl_42 (own_rd (H.get 0 rfl)) rfl rfl g137 g138)) (wa_one (i := 21) (l' := #[true, true, true, true, true, true, true, true, true, true, true, true, true, true, true, true, true, true, true, true, true, true]) rfl rfl rfl (by kernel_rfl) (y_storeI sz_5 H 0 rfl g137 g138 rfl rfl (fun w H => ⟨fun h => (h (by decide)).elim, (wa_done (by kernel_rfl) (n_bk (n_thn (wc_region (v_ rfl (mv (.int .i64 x111) rfl) (v_ rfl (r_add rfl rfl) (v_ rfl (sg (.int .i64 (IntKind.i64.wrap (x111 + 1))) rfl) (wl_nil ?_))))))))⟩)))
      exact ⟨k124, Nat.lt_succ_self _, _, _, _, Nat.le_of_succ_le hk125, E, upds_eq ⟨rfl, rfl, rfl, rfl, rfl, rfl, rfl, trivial⟩, H⟩
    · have E := iF c128 E
      refine wc_exit (x_thn (x_thn (x_bk (n_bk (n_thn (wc_region (v_ rfl (mv (.int .i64 x49) rfl) (v_ rfl (r_add rfl rfl) (v_ rfl (sg (.int .i64 (IntKind.i64.wrap (x49 + 1))) rfl) (wl_nil ?_))))))))))
      exact ⟨k124, by omega, _, _, _, by omega, E, upds_eq ⟨rfl, rfl, rfl, rfl, rfl, rfl, trivial⟩, H⟩
  · have E := iF c97 E
    refine wc_exit (x_thn (x_thn (x_bk (n_thn (rg (v_ rfl (mv v1 rfl) ?_))))))
    obtain ⟨x139, E140, E⟩ := bind_some E
    refine e_ rfl (y_callL en_74 rfl ((ref05_Norm.calls (H.own 0 rfl (own_rd (H.get 0 rfl))) E140).mono ?_))
    rintro _ w ⟨v141, rfl, K⟩
    have H := H.app K
    refine ⟨_, rfl, (v_ rfl (sg v141 rfl) (nl (wc_ret ?_)))⟩
    cases E
    exact ⟨.inl rfl, _, tk0 rfl ⟨resN rfl (rv_t rv_nil), _, rfl, H.sub1 1 rfl⟩⟩
def ref07_From.l0 : Nat → List Int → List (Int) → Int → Option (List Int)
  | 0, _, _, _ => none
  | k + 1, a0, l11, x12 => bif decide (x12 < (a0.length : Int)) then (grd (decide ((0 : Int) ≤ x12 ∧ x12 < (a0.length : Int))) ((ref05_Mul.f k l11 ([at_ 0 a0 x12, 1])).bind fun x29 => ref07_From.l0 k a0 x29 (IntKind.i64.wrap (x12 + 1)))) else (some l11)
def ref07_From.f (k : Nat) (a0 : List Int) : Option (List Int) := ref07_From.l0 k a0 ([1]) 0
set_option maxRecDepth 100000 in
set_option maxHeartbeats 4000000 in
theorem ref07_From.calls {w0 : World} {k : Nat} {a0 : List Int} {v0_ : Value} {r : List Int} (h0 : Rd (.of (.int .u8)) w0 (Ol no w0) v0_ a0) (E : ref07_From.f k a0 = some r) :
    Calls Try.prog 75 #[v0_] w0 fun e w' => ∃ (u0 : Value), e = .returned (u0) ∧ St no w0 w' [.own (.int .u8) 5 u0 r] := by
  have H := St.nil no w0
  unfold ref07_From.f at E
  refine calls_of_wc (N := 20) (args := [v0_]) Try.func75 rfl rfl (by simp) ?_
  refine rg (v_ rfl (sg (.slice none 0 0) rfl) (nl (rg (e_ rfl (y_bsL (e := (.int .u8)) (l := [1]) sl_42 H rfl (by decide) ⟨rfl, rfl, trivial⟩ (by decide) (fun v1 w H => (v_ rfl (sg v1 rfl) (nl (wc_seq (rg (v_ rfl (sg (.int .i64 0) rfl) (nl (wc_block ?_)))))))))))))
  refine wc_loop (fun kk t w => ∃ (l11 : List (Int)) (x12 : Int) (v10 : Value) (t23 : Fr), kk ≤ k ∧ ref07_From.l0 kk a0 l11 x12 = some r ∧ t = upds t23 [(0, v0_), (2, .slice none 0 0), (3, v10), (4, .int .i64 x12), (1000000, undef)] ∧ St no w0 w [.own (.int .u8) 5 v10 l11]) k ?_ ?_
  · exact ⟨_, _, _, _, Nat.le_refl _, E, upds_eq ⟨rfl, rfl, rfl, rfl, rfl, trivial⟩, H⟩
  rintro kk t w ⟨l11, x12, v10, t23, hk22, E, rfl, H⟩
  obtain ⟨k21, rfl⟩ | rfl : (∃ k', kk = k' + 1) ∨ kk = 0 := by cases kk; exact .inr rfl; exact .inl ⟨_, rfl⟩
  rotate_left
  · cases E
  rw [ref07_From.l0] at E
  refine wc_seq (rg (v_ rfl (mv (.int .i64 x12) rfl) (v_ rfl (mv v0_ rfl) (v_ rfl (r_lenR ul_42 (H.rd h0) rfl) (v_ rfl (r_lss rfl rfl) (nl ?_))))))
  refine wc_cond rfl (fun c25 => ?_) (fun c25 => ?_)
  · have E := iT c25 E
    refine wc_skip (n_thn (wc_seq (wc_block (wc_region (v_ rfl (mv v10 rfl) (v_ rfl (mv v0_ rfl) (v_ rfl (mv (.int .i64 x12) rfl) ?_)))))))
    obtain ⟨⟨g26, g27⟩, E⟩ := grd_some E
    refine v_ rfl (r_idx sl_42 (H.rd h0) rfl rfl g26 g27) (v_ rfl (r_ldI sc_5 (H.rd h0) g26 g27 rfl) (e_ rfl (y_bsL (e := (.int .u8)) (l := [at_ 0 a0 x12, 1]) sl_42 H rfl (by decide) ⟨rfl, rfl, rfl, rfl, trivial⟩ (by decide) (fun v28 w H => ?_))))
    obtain ⟨x29, E30, E⟩ := bind_some E
    refine e_ rfl (y_callL en_93 rfl ((ref05_Mul.calls (H.own 0 rfl (own_rd (H.get 0 rfl))) (H.own 1 rfl (own_rd (H.get 1 rfl))) E30).mono ?_))
    rintro _ w ⟨v31, rfl, K⟩
    have H := H.app K
    refine ⟨_, rfl, (v_ rfl (sg v31 rfl) (wl_nil (n_bk (n_thn (wc_region (v_ rfl (mv (.int .i64 x12) rfl) (v_ rfl (r_add rfl rfl) (v_ rfl (sg (.int .i64 (IntKind.i64.wrap (x12 + 1))) rfl) (wl_nil ?_)))))))))⟩
    exact ⟨k21, Nat.lt_succ_self _, _, _, _, _, Nat.le_of_succ_le hk22, E, upds_eq ⟨rfl, rfl, rfl, rfl, rfl, trivial⟩, H.sel [2] rfl rfl⟩
  · have E := iF c25 E
    refine wc_exit (x_thn (x_thn (x_bk (n_thn (rg (v_ rfl (mv v10 rfl) (v_ rfl (sg v10 rfl) (nl (wc_ret ?_)))))))))
    cases E
    exact ⟨.inl rfl, _, tk0 rfl ⟨resN rfl (rv_t rv_nil), _, rfl, H.sub1 0 rfl⟩⟩
def ref01_Pow.j0 (l0r : Int → Int → Int → Int → Option (Int)) (k : Nat) (a0 : Int) (x6 : Int) : Option (Int) := l0r a0 x6 1 0
def ref01_Pow.l0 : Nat → Int → Int → Int → Int → Option (Int)
  | 0, _, _, _, _ => none
  | k + 1, a0, x6, x15, x16 => bif decide (x16 < x6) then ((ref01_Mul.f k x15 a0).bind fun x26 => ref01_Pow.l0 k a0 x6 x26 (IntKind.i64.wrap (x16 + 1))) else (some x15)
def ref01_Pow.f (k : Nat) (a0 : Int) (a1 : Int) : Option (Int) := bif decide (a1 = 0) then (some 1) else (bif decide (a0 = 0) then (some 0) else (bif decide (Int.tmod a1 255 < 0) then (ref01_Pow.j0 (ref01_Pow.l0 k) k a0 (IntKind.i64.wrap ((Int.tmod a1 255) + 255))) else (ref01_Pow.j0 (ref01_Pow.l0 k) k a0 (Int.tmod a1 255))))
set_option maxRecDepth 100000 in
set_option maxHeartbeats 4000000 in
theorem ref01_Pow.calls {w0 : World} {k : Nat} {a0 : Int} {a1 : Int} {r : Int}  (E : ref01_Pow.f k a0 a1 = some r) :
    Calls Try.prog 103 #[.int .u8 a0, .int .i64 a1] w0 fun e w' => e = .returned (.int .u8 r) ∧ St no w0 w' [] := by
  have H := St.nil no w0
  unfold ref01_Pow.f at E
  refine calls_of_wc (N := 27) (args := [.int .u8 a0, .int .i64 a1]) Try.func103 rfl rfl (by simp) ?_
  refine rg (v_ rfl (sg (.int .u8 0) rfl) (nl (wc_seq (rg (v_ rfl (mv (.int .i64 a1) rfl) (v_ rfl (r_eql rfl rfl) (nl ?_)))))))
  refine wc_cond rfl (fun c2 => ?_) (fun c2 => ?_)
  · have E := iT c2 E
    refine rg (v_ rfl (sg (.int .u8 1) rfl) (nl (wc_ret ?_)))
    cases E
    exact (r_thn ⟨.inl rfl, _, tk0 rfl ⟨resN rfl (rv_t rv_nil), rfl, H.sub0⟩⟩)
  · have E := iF c2 E
    refine wc_skip (n_thn (wc_seq (rg (v_ rfl (mv (.int .u8 a0) rfl) (v_ rfl (r_eql rfl rfl) (nl ?_))))))
    refine wc_cond rfl (fun c4 => ?_) (fun c4 => ?_)
    · have E := iT c4 E
      refine rg (v_ rfl (sg (.int .u8 0) rfl) (nl (wc_ret ?_)))
      cases E
      exact (r_thn ⟨.inl rfl, _, tk0 rfl ⟨resN rfl (rv_t rv_nil), rfl, H.sub0⟩⟩)
    · have E := iF c4 E
      refine wc_skip (n_thn (rg (v_ rfl (mv (.int .i64 a1) rfl) (v_ rfl (r_rem rfl rfl (by decide)) (v_ rfl (sg (.int .i64 (Int.tmod a1 255)) rfl) (nl ?_))))))
      refine wc_seqJ (fun t w => ∃ (k8 : Nat) (x6 : Int) (t7 : Fr), k8 ≤ k ∧ ref01_Pow.j0 (ref01_Pow.l0 k8) k8 a0 x6 = some r ∧ t = upds t7 [(0, .int .u8 a0), (4, .int .u8 0), (5, .int .i64 x6), (1000000, undef)] ∧ St no w0 w []) ?_ ?_
      · refine rg (v_ rfl (mv (.int .i64 (Int.tmod a1 255)) rfl) (v_ rfl (r_lss rfl rfl) (nl ?_)))
        refine wc_cond rfl (fun c10 => ?_) (fun c10 => ?_)
        · have E := iT c10 E
          refine wc_region (v_ rfl (mv (.int .i64 (Int.tmod a1 255)) rfl) (v_ rfl (r_add rfl rfl) (v_ rfl (sg (.int .i64 (IntKind.i64.wrap ((Int.tmod a1 255) + 255))) rfl) (wl_nil ?_))))
          exact ⟨k, _, _, Nat.le_refl _, E, upds_eq ⟨rfl, rfl, rfl, rfl, trivial⟩, H⟩
        · have E := iF c10 E
          refine wc_skip ?_
          exact ⟨k, _, _, Nat.le_refl _, E, upds_eq ⟨rfl, rfl, rfl, rfl, trivial⟩, H⟩
      rintro t w ⟨k8, x6, t7, hk9, E, rfl, H⟩
      unfold ref01_Pow.j0 at E
      refine rg (v_ rfl (sg (.int .u8 1) rfl) (nl (wc_seq (rg (v_ rfl (sg (.int .i64 0) rfl) (nl (wc_block ?_)))))))
      refine wc_loop (fun kk t w => ∃ (x15 : Int) (x16 : Int) (t23 : Fr), kk ≤ k8 ∧ ref01_Pow.l0 kk a0 x6 x15 x16 = some r ∧ t = upds t23 [(0, .int .u8 a0), (4, .int .u8 0), (5, .int .i64 x6), (6, .int .u8 x15), (7, .int .i64 x16), (1000000, undef)] ∧ St no w0 w []) k8 ?_ ?_
      · exact ⟨_, _, _, Nat.le_refl _, E, upds_eq ⟨rfl, rfl, rfl, rfl, rfl, rfl, trivial⟩, H⟩
      rintro kk t w ⟨x15, x16, t23, hk22, E, rfl, H⟩
      obtain ⟨k21, rfl⟩ | rfl : (∃ k', kk = k' + 1) ∨ kk = 0 := by cases kk; exact .inr rfl; exact .inl ⟨_, rfl⟩
      rotate_left
      · cases E
      rw [ref01_Pow.l0] at E
      refine wc_seq (rg (v_ rfl (mv (.int .i64 x16) rfl) (v_ rfl (mv (.int .i64 x6) rfl) (v_ rfl (r_lss rfl rfl) (nl ?_)))))
      refine wc_cond rfl (fun c25 => ?_) (fun c25 => ?_)
      · have E := iT c25 E
        refine wc_skip (n_thn (wc_seq (wc_block (wc_region (v_ rfl (mv (.int .u8 x15) rfl) (v_ rfl (mv (.int .u8 a0) rfl) ?_))))))
        obtain ⟨x26, E27, E⟩ := bind_some E
        refine e_ rfl (y_callL en_102 rfl ((ref01_Mul.calls E27).mono ?_))
        rintro _ w ⟨rfl, K⟩
        have H := H.app K
        refine ⟨_, rfl, (v_ rfl (sg (.int .u8 x26) rfl) (wl_nil (n_bk (n_thn (wc_region (v_ rfl (mv (.int .i64 x16) rfl) (v_ rfl (r_add rfl rfl) (v_ rfl (sg (.int .i64 (IntKind.i64.wrap (x16 + 1))) rfl) (wl_nil ?_)))))))))⟩
        exact ⟨k21, Nat.lt_succ_self _, _, _, _, Nat.le_of_succ_le hk22, E, upds_eq ⟨rfl, rfl, rfl, rfl, rfl, rfl, trivial⟩, H⟩
      · have E := iF c25 E
        refine wc_exit (x_thn (x_thn (x_bk (n_thn (rg (v_ rfl (mv (.int .u8 x15) rfl) (v_ rfl (sg (.int .u8 x15) rfl) (nl (wc_ret ?_)))))))))
        cases E
        exact ⟨.inl rfl, _, tk0 rfl ⟨resN rfl (rv_t rv_nil), rfl, H.sub0⟩⟩
def ref10_Point.f (k : Nat) (a0 : Int) : Option (Int) := (ref01_Pow.f k 2 a0).bind fun x1 => some x1
set_option maxRecDepth 100000 in
set_option maxHeartbeats 4000000 in
theorem ref10_Point.calls {w0 : World} {k : Nat} {a0 : Int} {r : Int}  (E : ref10_Point.f k a0 = some r) :
    Calls Try.prog 94 #[.int .i64 a0] w0 fun e w' => e = .returned (.int .u8 r) ∧ St no w0 w' [] := by
  have H := St.nil no w0
  unfold ref10_Point.f at E
  refine calls_of_wc (N := 5) (args := [.int .i64 a0]) Try.func94 rfl rfl (by simp) ?_
  refine rg (v_ rfl (sg (.int .u8 0) rfl) (nl (rg (v_ rfl (mv (.int .i64 a0) rfl) ?_))))
  obtain ⟨x1, E2, E⟩ := bind_some E
  refine e_ rfl (y_callL en_103 rfl ((ref01_Pow.calls E2).mono ?_))
  rintro _ w ⟨rfl, K⟩
  have H := H.app K
  refine ⟨_, rfl, (v_ rfl (sg (.int .u8 x1) rfl) (nl (wc_ret ?_)))⟩
  cases E
  exact ⟨.inl rfl, _, tk0 rfl ⟨resN rfl (rv_t rv_nil), rfl, H.sub0⟩⟩
def ref10_Roots.l0 : Nat → (Int × Int × Int) → List (Int) → Int → Option (List Int)
  | 0, _, _, _ => none
  | k + 1, a0, l25, x26 => (ref10_Space.f (a0.1, a0.2.1, a0.2.2)).bind fun x44 => bif decide (x26 < x44) then ((ref10_Point.f k (IntKind.i64.wrap (a0.2.2 + x26))).bind fun x47 => grd (decide ((l25.length + ([x47]).length) * 1 ≤ 140737488355328)) (ref10_Roots.l0 k a0 (l25 ++ ([x47])) (IntKind.i64.wrap (x26 + 1)))) else (some l25)
def ref10_Roots.f (k : Nat) (a0 : Int × Int × Int) : Option (List Int) := ref10_Roots.l0 k a0 ([] : List (Int)) 0
set_option maxRecDepth 100000 in
set_option maxHeartbeats 4000000 in
theorem ref10_Roots.calls {w0 : World} {k : Nat} {a0 : Int × Int × Int} {r : List Int}  (E : ref10_Roots.f k a0 = some r) :
    Calls Try.prog 76 #[.agg #[.int .i64 a0.1, .int .i64 a0.2.1, .int .i64 a0.2.2]] w0 fun e w' => ∃ (u0 : Value), e = .returned (u0) ∧ St no w0 w' [.own (.int .u8) 5 u0 r] := by
  have H := St.nil no w0
  unfold ref10_Roots.f at E
  refine calls_of_wc (N := 20) (args := [.agg #[.int .i64 a0.1, .int .i64 a0.2.1, .int .i64 a0.2.2]]) Try.func76 rfl rfl (by simp) ?_
  refine rg (e_ rfl (y_boxS (cs := #[.int .i64 a0.1, .int .i64 a0.2.1, .int .i64 a0.2.2]) H rfl (fun b1 w H => (v_ rfl (sg (.slice none 0 0) rfl) (nl (rg (v_ rfl (sg (.slice none 0 0) rfl) (nl (wc_seq (rg (v_ rfl (sg (.int .i64 0) rfl) (nl (wc_block ?_)))))))))))))
  have H := H.nilOwn (.int .u8) 5
  refine wc_loop (fun kk t w => ∃ (l25 : List (Int)) (x26 : Int) (v24 : Value) (t40 : Fr), kk ≤ k ∧ ref10_Roots.l0 kk a0 l25 x26 = some r ∧ t = upds t40 [(1, .pointer (some ⟨b1, 0, none⟩)), (2, .slice none 0 0), (3, v24), (4, .int .i64 x26), (1000000, undef)] ∧ St no w0 w [.blk b1 #[.int .i64 a0.1, .int .i64 a0.2.1, .int .i64 a0.2.2] 23, .own (.int .u8) 5 v24 l25]) k ?_ ?_
  · exact ⟨_, _, _, _, Nat.le_refl _, E, upds_eq ⟨rfl, rfl, rfl, rfl, rfl, trivial⟩, H⟩
  rintro kk t w ⟨l25, x26, v24, t40, hk39, E, rfl, H⟩
  obtain ⟨k38, rfl⟩ | rfl : (∃ k', kk = k' + 1) ∨ kk = 0 := by cases kk; exact .inr rfl; exact .inl ⟨_, rfl⟩
  rotate_left
  · cases E
  rw [ref10_Roots.l0] at E
  refine wc_seq (rg (v_ rfl (mv (.int .i64 x26) rfl) (v_ rfl (r_loadB (l := [.int .i64 a0.1, .int .i64 a0.2.1, .int .i64 a0.2.2]) ag_23 (H.get 0 rfl) rfl rfl rfl) ?_)))
  obtain ⟨x44, E45, E⟩ := bind_some E
  refine e_ rfl (y_callL en_60 rfl ((ref10_Space.calls E45).mono ?_))
  rintro _ w ⟨rfl, K⟩
  have H := H.app K
  refine ⟨_, rfl, (v_ rfl (r_lss rfl rfl) (nl ?_))⟩
  refine wc_cond rfl (fun c46 => ?_) (fun c46 => ?_)
  · have E := iT c46 E
    refine wc_skip (n_thn (wc_seq (wc_block (wc_region (v_ rfl (mv v24 rfl) (v_ rfl (r_faddr fa_23_2 rfl) (v_ rfl (r_load sc_3 rfl (blk_cell (H.get 0 rfl) rfl)) (v_ rfl (mv (.int .i64 x26) rfl) (v_ rfl (r_add rfl rfl) ?_)))))))))
    obtain ⟨x47, E48, E⟩ := bind_some E
    refine e_ rfl (y_callL en_94 rfl ((ref10_Point.calls E48).mono ?_))
    rintro _ w ⟨rfl, K⟩
    have H := H.app K
    refine ⟨_, rfl, (e_ rfl (y_bsL (e := (.int .u8)) (l := [x47]) sl_42 H rfl (by decide) ⟨rfl, rfl, trivial⟩ (by decide) (fun v49 w H => ?_)))⟩
    obtain ⟨g51, E⟩ := grd_some E
    refine e_ rfl (y_app sl_42 H 1 rfl (own_rd (H.get 2 rfl)) rfl rfl (by omega) (by unfold maxLen; omega) (fun v50 w H => (v_ rfl (sg v50 rfl) (wl_nil (n_bk (n_thn (wc_region (v_ rfl (mv (.int .i64 x26) rfl) (v_ rfl (r_add rfl rfl) (v_ rfl (sg (.int .i64 (IntKind.i64.wrap (x26 + 1))) rfl) (wl_nil ?_)))))))))))
    exact ⟨k38, Nat.lt_succ_self _, _, _, _, _, Nat.le_of_succ_le hk39, E, upds_eq ⟨rfl, rfl, rfl, rfl, rfl, trivial⟩, H.sel [0, 1] rfl rfl⟩
  · have E := iF c46 E
    refine wc_exit (x_thn (x_thn (x_bk (n_thn (rg (v_ rfl (mv v24 rfl) (v_ rfl (sg v24 rfl) (nl (wc_ret ?_)))))))))
    cases E
    exact ⟨.inl rfl, _, tk0 rfl ⟨resN rfl (rv_t rv_nil), _, rfl, H.sub1 1 rfl⟩⟩
def ref10_Generator.f (k : Nat) (a0 : Int × Int × Int) : Option (List Int) := (ref10_Right.f (a0.1, a0.2.1, a0.2.2)).bind fun x5 => bif !decide (x5 = 0) then (some ([] : List (Int))) else ((ref10_Roots.f k (a0.1, a0.2.1, a0.2.2)).bind fun x8 => (ref07_From.f k x8).bind fun x11 => some x11)
set_option maxRecDepth 100000 in
set_option maxHeartbeats 4000000 in
theorem ref10_Generator.calls {w0 : World} {k : Nat} {a0 : Int × Int × Int} {r : List Int}  (E : ref10_Generator.f k a0 = some r) :
    Calls Try.prog 63 #[.agg #[.int .i64 a0.1, .int .i64 a0.2.1, .int .i64 a0.2.2]] w0 fun e w' => ∃ (u0 : Value), e = .returned (u0) ∧ St no w0 w' [.own (.int .u8) 5 u0 r] := by
  have H := St.nil no w0
  unfold ref10_Generator.f at E
  refine calls_of_wc (N := 9) (args := [.agg #[.int .i64 a0.1, .int .i64 a0.2.1, .int .i64 a0.2.2]]) Try.func63 rfl rfl (by simp) ?_
  refine rg (e_ rfl (y_boxS (cs := #[.int .i64 a0.1, .int .i64 a0.2.1, .int .i64 a0.2.2]) H rfl (fun b1 w H => (v_ rfl (sg (.slice none 0 0) rfl) (nl (wc_seq (rg (v_ rfl (r_loadB (l := [.int .i64 a0.1, .int .i64 a0.2.1, .int .i64 a0.2.2]) ag_23 (H.get 0 rfl) rfl rfl rfl) ?_))))))))
  obtain ⟨x5, E6, E⟩ := bind_some E
  refine e_ rfl (y_callL en_54 rfl ((ref10_Right.calls E6).mono ?_))
  rintro _ w ⟨rfl, K⟩
  have H := H.app K
  refine ⟨_, rfl, (v_ rfl (r_neq rfl rfl) (nl ?_))⟩
  refine wc_cond rfl (fun c7 => ?_) (fun c7 => ?_)
  · have E := iT c7 E
    refine rg (v_ rfl (sg (.slice none 0 0) rfl) (nl (wc_ret ?_)))
    have H := H.nilOwn (.int .u8) 5
    cases E
    exact (r_thn ⟨.inl rfl, _, tk0 rfl ⟨resN rfl (rv_t rv_nil), _, rfl, H.sub1 1 rfl⟩⟩)
  · have E := iF c7 E
    refine wc_skip (n_thn (rg (v_ rfl (r_loadB (l := [.int .i64 a0.1, .int .i64 a0.2.1, .int .i64 a0.2.2]) ag_23 (H.get 0 rfl) rfl rfl rfl) ?_)))
    obtain ⟨x8, E9, E⟩ := bind_some E
    refine e_ rfl (y_callL en_76 rfl ((ref10_Roots.calls E9).mono ?_))
    rintro _ w ⟨v10, rfl, K⟩
    have H := H.app K
    refine ⟨_, rfl, ?_⟩
    obtain ⟨x11, E12, E⟩ := bind_some E
    refine e_ rfl (y_callL en_75 rfl ((ref07_From.calls (H.own 1 rfl (own_rd (H.get 1 rfl))) E12).mono ?_))
    rintro _ w ⟨v13, rfl, K⟩
    have H := H.app K
    refine ⟨_, rfl, (v_ rfl (sg v13 rfl) (nl (wc_ret ?_)))⟩
    cases E
    exact ⟨.inl rfl, _, tk0 rfl ⟨resN rfl (rv_t rv_nil), _, rfl, H.sub1 2 rfl⟩⟩
def ref11_Encode.l0 : Nat → List Int → Int → (List Int × Bool) → List (Int) → Int → Option (List Int × Int)
  | 0, _, _, _, _, _ => none
  | k + 1, a1, x10, x18, l36, x37 => bif decide (x37 < x10) then ((ref05_Coef.f x18.1 x37).bind fun x50 => grd (decide ((l36.length + ([x50]).length) * 1 ≤ 140737488355328)) (ref11_Encode.l0 k a1 x10 x18 (l36 ++ ([x50])) (IntKind.i64.wrap (x37 + 1)))) else (grd (decide ((l36.length + a1.length) * 1 ≤ 140737488355328)) (some (l36 ++ a1, 0)))
def ref11_Encode.f (k : Nat) (a0 : Int × Int × Int) (a1 : List Int) : Option (List Int × Int) := (ref10_Right.f (a0.1, a0.2.1, a0.2.2)).bind fun x5 => bif !decide (x5 = 0) then (some (([] : List (Int)), 10)) else (bif !decide ((a1.length : Int) = a0.2.1) then (some (([] : List (Int)), 12)) else ((ref10_Space.f (a0.1, a0.2.1, a0.2.2)).bind fun x10 => (ref05_Up.f k a1 x10).bind fun x12 => (ref10_Generator.f k (a0.1, a0.2.1, a0.2.2)).bind fun x15 => (ref06_Mod.f k x12 x15).bind fun x18 => ref11_Encode.l0 k a1 x10 x18 ([] : List (Int)) 0))
set_option maxRecDepth 100000 in
set_option maxHeartbeats 4000000 in
theorem ref11_Encode.calls {w0 : World} {k : Nat} {a0 : Int × Int × Int} {a1 : List Int} {v1_ : Value} {r : List Int × Int} (h1 : Rd (.of (.int .u8)) w0 (Ol no w0) v1_ a1) (E : ref11_Encode.f k a0 a1 = some r) :
    Calls Try.prog 49 #[.agg #[.int .i64 a0.1, .int .i64 a0.2.1, .int .i64 a0.2.2], v1_] w0 fun e w' => ∃ (u0 : Value), e = .returned (.tuple #[u0, .int .i64 r.2]) ∧ St no w0 w' [.own (.int .u8) 5 u0 r.1] := by
  have H := St.nil no w0
  unfold ref11_Encode.f at E
  refine calls_of_wc (N := 44) (args := [.agg #[.int .i64 a0.1, .int .i64 a0.2.1, .int .i64 a0.2.2], v1_]) Try.func49 rfl rfl (by simp) ?_
  refine rg (e_ rfl (y_boxS (cs := #[.int .i64 a0.1, .int .i64 a0.2.1, .int .i64 a0.2.2]) H rfl (fun b1 w H => (v_ rfl (sg (.slice none 0 0) rfl) (v_ rfl (sg (.int .i64 0) rfl) (nl (wc_seq (rg (v_ rfl (r_loadB (l := [.int .i64 a0.1, .int .i64 a0.2.1, .int .i64 a0.2.2]) ag_23 (H.get 0 rfl) rfl rfl rfl) ?_)))))))))
  obtain ⟨x5, E6, E⟩ := bind_some E
  refine e_ rfl (y_callL en_54 rfl ((ref10_Right.calls E6).mono ?_))
  rintro _ w ⟨rfl, K⟩
  have H := H.app K
  refine ⟨_, rfl, (v_ rfl (r_neq rfl rfl) (nl ?_))⟩
  refine wc_cond rfl (fun c7 => ?_) (fun c7 => ?_)
  · have E := iT c7 E
    refine rg (v_ rfl (sg (.slice none 0 0) rfl) (v_ rfl (sg (.int .i64 10) rfl) (nl (wc_ret ?_))))
    have H := H.nilOwn (.int .u8) 5
    cases E
    exact (r_thn ⟨.inl rfl, _, tk0 rfl ⟨resN rfl (rv_t (rv_t rv_nil)), _, rfl, H.sub1 1 rfl⟩⟩)
  · have E := iF c7 E
    refine wc_skip (n_thn (wc_seq (rg (v_ rfl (mv v1_ rfl) (v_ rfl (r_lenR ul_42 (H.rd h1) rfl) (v_ rfl (r_faddr fa_23_1 rfl) (v_ rfl (r_load sc_3 rfl (blk_cell (H.get 0 rfl) rfl)) (v_ rfl (r_neq rfl rfl) (nl ?_)))))))))
    refine wc_cond rfl (fun c9 => ?_) (fun c9 => ?_)
    · have E := iT c9 E
      refine rg (v_ rfl (sg (.slice none 0 0) rfl) (v_ rfl (sg (.int .i64 12) rfl) (nl (wc_ret ?_))))
      have H := H.nilOwn (.int .u8) 5
      cases E
      exact (r_thn ⟨.inl rfl, _, tk0 rfl ⟨resN rfl (rv_t (rv_t rv_nil)), _, rfl, H.sub1 1 rfl⟩⟩)
    · have E := iF c9 E
      refine wc_skip (n_thn (rg (v_ rfl (r_loadB (l := [.int .i64 a0.1, .int .i64 a0.2.1, .int .i64 a0.2.2]) ag_23 (H.get 0 rfl) rfl rfl rfl) ?_)))
      obtain ⟨x10, E11, E⟩ := bind_some E
      refine e_ rfl (y_callL en_60 rfl ((ref10_Space.calls E11).mono ?_))
      rintro _ w ⟨rfl, K⟩
      have H := H.app K
      refine ⟨_, rfl, (v_ rfl (sg (.int .i64 x10) rfl) (nl (wc_seq (wc_drawnS (ds := []) mo H rfl rfl ?_))))⟩
      have H := H.drew
      refine wa_take (i := 0) (l' := #[true, false, false, false, false, false, false, false, false, false, false]) rfl rfl rfl (by kernel_rfl) H (fun w H => (mv v1_ rfl)) (wa_take (i := 1) (l' := #[true, true, false, false, false, false, false, false, false, false, false]) rfl rfl rfl (by kernel_rfl) H (fun w H => (mv (.int .i64 x10) rfl)) (wa_take (i := 3) (l' := #[true, true, false, true, false, false, false, false, false, false, false]) rfl rfl rfl (by kernel_rfl) H (fun w H => (r_loadB (l := [.int .i64 a0.1, .int .i64 a0.2.1, .int .i64 a0.2.2]) ag_23 (H.get 0 rfl) rfl rfl rfl)) ?_))
      obtain ⟨x12, E13, E⟩ := bind_some E
      refine wa_one (i := 2) (l' := #[true, true, true, true, false, false, false, false, false, false, false]) rfl rfl rfl (by kernel_rfl) (y_callL en_62 rfl ((ref05_Up.calls (H.arg (H.rd h1)) E13).mono ?_))
      rintro _ w ⟨v14, rfl, K⟩
      have H := H.app K
      refine ⟨_, rfl, ⟨fun _ => H.sel [0] rfl rfl, ?_⟩⟩
      obtain ⟨x15, E16, E⟩ := bind_some E
      refine wa_one (i := 4) (l' := #[true, true, true, true, true, false, false, false, false, false, false]) rfl rfl rfl (by kernel_rfl) (y_callL en_63 rfl ((ref10_Generator.calls E16).mono ?_))
      rintro _ w ⟨v17, rfl, K⟩
      have H := H.app K
      refine ⟨_, rfl, ⟨fun _ => H.sel [0] rfl rfl, ?_⟩⟩
      have H : St no w0 w [.blk b1 #[.int .i64 a0.1, .int .i64 a0.2.1, .int .i64 a0.2.2] 23, .own (.int .u8) 5 v14 x12, .own (.int .u8) 5 v17 x15] := H
      obtain ⟨x18, E19, E⟩ := bind_some E
      refine wa_one (i := 5) (l' := #[true, true, true, true, true, true, false, false, false, false, false]) rfl rfl rfl (by kernel_rfl) (y_callL en_61 rfl ((ref06_Mod.calls (H.own 1 rfl (own_rd (H.get 1 rfl))) (H.own 2 rfl (own_rd (H.get 2 rfl))) E19).mono ?_))
      rintro _ w ⟨v20, rfl, K⟩
      have H := H.app K
      refine ⟨_, rfl, ⟨fun _ => H.sel [0] rfl rfl, (wa_take (i := 6) (l' := #[true, true, true, true, true, true, true, false, false, false, false]) rfl rfl rfl (by kernel_rfl) (H.sel [0] rfl rfl) (fun w H => (r_move)) (wa_take (i := 7) (l' := #[true, true, true, true, true, true, true, true, false, false, false]) rfl rfl rfl (by kernel_rfl) (H.sel [0] rfl rfl) (fun w H => (r_extract rfl rfl)) (wa_take (i := 8) (l' := #[true, true, true, true, true, true, true, true, true, false, false]) rfl rfl rfl (by kernel_rfl) (H.sel [0] rfl rfl) (fun w H => (r_extract rfl rfl)) (wa_oneV (i := 9) (l' := #[true, true, true, true, true, true, true, true, true, true, false]) rfl rfl rfl (by kernel_rfl) ((H.sel [0] rfl rfl)) (sg v20 rfl) (wa_take (i := 10) (l' := #[true, true, true, true, true, true, true, true, true, true, true]) rfl rfl rfl (by kernel_rfl) (H.sel [0] rfl rfl) (fun w H => (sg (.bool x18.2) rfl)) (wa_done (by kernel_rfl) (n_thn (rg (v_ rfl (sg (.slice none 0 0) rfl) (nl (wc_seq (rg (v_ rfl (sg (.int .i64 0) rfl) (nl (wc_block ?_)))))))))))))))⟩⟩
      have H := H.nilOwn (.int .u8) 5
      refine wc_loop (fun kk t w => ∃ (l36 : List (Int)) (x37 : Int) (v35 : Value) (t47 : Fr), kk ≤ k ∧ ref11_Encode.l0 kk a1 x10 x18 l36 x37 = some r ∧ t = upds t47 [(1, v1_), (4, .slice none 0 0), (5, .int .i64 0), (6, .int .i64 x10), (7, v20), (9, v35), (10, .int .i64 x37), (1000000, undef)] ∧ St no w0 w [.blk b1 #[.int .i64 a0.1, .int .i64 a0.2.1, .int .i64 a0.2.2] 23, .own (.int .u8) 5 v14 x12, .own (.int .u8) 5 v17 x15, .own (.int .u8) 5 v20 x18.1, .own (.int .u8) 5 v35 l36]) k ?_ ?_
      · exact ⟨_, _, _, _, Nat.le_refl _, E, upds_eq ⟨rfl, rfl, rfl, rfl, rfl, rfl, rfl, rfl, trivial⟩, H⟩
      rintro kk t w ⟨l36, x37, v35, t47, hk46, E, rfl, H⟩
      obtain ⟨k45, rfl⟩ | rfl : (∃ k', kk = k' + 1) ∨ kk = 0 := by cases kk; exact .inr rfl; exact .inl ⟨_, rfl⟩
      rotate_left
      · cases E
      rw [ref11_Encode.l0] at E
      refine wc_seq (rg (v_ rfl (mv (.int .i64 x37) rfl) (v_ rfl (mv (.int .i64 x10) rfl) (v_ rfl (r_lss rfl rfl) (nl ?_)))))
      refine wc_cond rfl (fun c49 => ?_) (fun c49 => ?_)
      · have E := iT c49 E
        refine wc_skip (n_thn (wc_seq (wc_block (wc_region (v_ rfl (mv v35 rfl) (v_ rfl (mv v20 rfl) (v_ rfl (mv (.int .i64 x37) rfl) ?_)))))))
        obtain ⟨x50, E51, E⟩ := bind_some E
        refine e_ rfl (y_callL en_64 rfl ((ref05_Coef.calls (H.own 3 rfl (own_rd (H.get 3 rfl))) E51).mono ?_))
        rintro _ w ⟨rfl, K⟩
        have H := H.app K
        refine ⟨_, rfl, (e_ rfl (y_bsL (e := (.int .u8)) (l := [x50]) sl_42 H rfl (by decide) ⟨rfl, rfl, trivial⟩ (by decide) (fun v52 w H => ?_)))⟩
        obtain ⟨g54, E⟩ := grd_some E
        refine e_ rfl (y_app sl_42 H 4 rfl (own_rd (H.get 5 rfl)) rfl rfl (by omega) (by unfold maxLen; omega) (fun v53 w H => (v_ rfl (sg v53 rfl) (wl_nil (n_bk (n_thn (wc_region (v_ rfl (mv (.int .i64 x37) rfl) (v_ rfl (r_add rfl rfl) (v_ rfl (sg (.int .i64 (IntKind.i64.wrap (x37 + 1))) rfl) (wl_nil ?_)))))))))))
        exact ⟨k45, Nat.lt_succ_self _, _, _, _, _, Nat.le_of_succ_le hk46, E, upds_eq ⟨rfl, rfl, rfl, rfl, rfl, rfl, rfl, rfl, trivial⟩, H.sel [0, 1, 2, 3, 4] rfl rfl⟩
      · have E := iF c49 E
        refine wc_exit (x_thn (x_thn (x_bk (n_thn (rg (v_ rfl (mv v35 rfl) (v_ rfl (mv v1_ rfl) ?_)))))))
        obtain ⟨g56, E⟩ := grd_some E
        refine e_ rfl (y_app sl_42 H 4 rfl (H.rd h1) rfl rfl (by omega) (by unfold maxLen; omega) (fun v55 w H => (v_ rfl (sg v55 rfl) (v_ rfl (sg (.int .i64 0) rfl) (nl (wc_ret ?_))))))
        cases E
        exact ⟨.inl rfl, _, tk0 rfl ⟨resN rfl (rv_t (rv_t rv_nil)), _, rfl, H.sub1 4 rfl⟩⟩
def ref21_Spot.f (a0 : Int × Int × Int) (a1 : Int) (a2 : Int) : Option (Int × Int) := (ref21_Right.f (a0.1, a0.2.1, a0.2.2) a1).bind fun x6 => bif !x6 then (some (0, 0)) else (bif decide (a2 < 0) then (some (0, 0)) else (grd (decide (IntKind.i64.wrap (a0.1 * a1) ≠ 0)) (grd (decide (IntKind.i64.wrap (a0.1 * a1) ≠ 0)) (grd (decide (a1 ≠ 0)) (grd (decide (a1 ≠ 0)) (some (IntKind.i64.wrap ((IntKind.i64.wrap ((IntKind.i64.wrap (Int.tdiv a2 (IntKind.i64.wrap (a0.1 * a1)))) * a1)) + (Int.tmod (Int.tmod a2 (IntKind.i64.wrap (a0.1 * a1))) a1)), IntKind.i64.wrap (Int.tdiv (Int.tmod a2 (IntKind.i64.wrap (a0.1 * a1))) a1))))))))
set_option maxRecDepth 100000 in
set_option maxHeartbeats 4000000 in
theorem ref21_Spot.calls {w0 : World} {a0 : Int × Int × Int} {a1 : Int} {a2 : Int} {r : Int × Int}  (E : ref21_Spot.f a0 a1 a2 = some r) :
    Calls Try.prog 65 #[.agg #[.int .i64 a0.1, .int .i64 a0.2.1, .int .i64 a0.2.2], .int .i64 a1, .int .i64 a2] w0 fun e w' => e = .returned (.tuple #[.int .i64 r.1, .int .i64 r.2]) ∧ St no w0 w' [] := by
  have H := St.nil no w0
  unfold ref21_Spot.f at E
  refine calls_of_wc (N := 40) (args := [.agg #[.int .i64 a0.1, .int .i64 a0.2.1, .int .i64 a0.2.2], .int .i64 a1, .int .i64 a2]) Try.func65 rfl rfl (by simp) ?_
  refine rg (e_ rfl (y_boxS (cs := #[.int .i64 a0.1, .int .i64 a0.2.1, .int .i64 a0.2.2]) H rfl (fun b1 w H => (v_ rfl (sg (.int .i64 0) rfl) (v_ rfl (sg (.int .i64 0) rfl) (nl (wc_seq (rg (v_ rfl (r_loadB (l := [.int .i64 a0.1, .int .i64 a0.2.1, .int .i64 a0.2.2]) ag_23 (H.get 0 rfl) rfl rfl rfl) (v_ rfl (mv (.int .i64 a1) rfl) ?_))))))))))
  obtain ⟨x6, E7, E⟩ := bind_some E
  refine e_ rfl (y_callL en_47 rfl ((ref21_Right.calls E7).mono ?_))
  rintro _ w ⟨rfl, K⟩
  have H := H.app K
  refine ⟨_, rfl, (v_ rfl (r_not rfl) (v_ rfl (mv (.bool (!x6)) rfl) ?_))⟩
  rcases Bool.eq_false_or_eq_true (!x6) with c8 | c8
  · have E := iT c8 E
    refine off_ c8 rfl rfl rfl (off_ c8 rfl rfl rfl (v_ rfl (pT (.bool true) rfl rfl c8) (nl (wc_condT rfl (rg (v_ rfl (sg (.int .i64 0) rfl) (v_ rfl (sg (.int .i64 0) rfl) (nl (wc_ret ?_)))))))))
    cases E
    exact (r_thn ⟨.inl rfl, _, tk0 rfl ⟨resN rfl (rv_t (rv_t rv_nil)), rfl, H.sub0⟩⟩)
  · have E := iF c8 E
    refine on_ c8 rfl rfl (mv (.int .i64 a2) rfl) (on_ c8 rfl rfl (r_lss rfl rfl) (v_ rfl (pF (.bool (decide (a2 < 0))) rfl rfl c8) (nl ?_)))
    refine wc_cond rfl (fun c9 => ?_) (fun c9 => ?_)
    · have E := iT c9 E
      refine rg (v_ rfl (sg (.int .i64 0) rfl) (v_ rfl (sg (.int .i64 0) rfl) (nl (wc_ret ?_))))
      cases E
      exact (r_thn ⟨.inl rfl, _, tk0 rfl ⟨resN rfl (rv_t (rv_t rv_nil)), rfl, H.sub0⟩⟩)
    · have E := iF c9 E
      refine wc_skip (n_thn (rg (v_ rfl (mv (.int .i64 a2) rfl) (v_ rfl (r_faddr fa_23_0 rfl) (v_ rfl (r_load sc_3 rfl (blk_cell (H.get 0 rfl) rfl)) (v_ rfl (mv (.int .i64 a1) rfl) (v_ rfl (r_mul rfl rfl) ?_)))))))
      obtain ⟨g10, E⟩ := grd_some E
      refine v_ rfl (r_quo rfl rfl g10) (v_ rfl (sg (.int .i64 (IntKind.i64.wrap (Int.tdiv a2 (IntKind.i64.wrap (a0.1 * a1))))) rfl) (nl (rg (v_ rfl (mv (.int .i64 a2) rfl) (v_ rfl (r_faddr fa_23_0 rfl) (v_ rfl (r_load sc_3 rfl (blk_cell (H.get 0 rfl) rfl)) (v_ rfl (mv (.int .i64 a1) rfl) (v_ rfl (r_mul rfl rfl) ?_))))))))
      obtain ⟨g11, E⟩ := grd_some E
      refine v_ rfl (r_rem rfl rfl g11) (v_ rfl (sg (.int .i64 (Int.tmod a2 (IntKind.i64.wrap (a0.1 * a1)))) rfl) (nl (wc_seq (wc_drawnS (ds := []) mo H rfl rfl ?_))))
      have H := H.drew
      refine wa_take (i := 0) (l' := #[true, false, false, false, false, false, false, false, false, false, false, false]) rfl rfl rfl (by kernel_rfl) H (fun w H => (mv (.int .i64 (IntKind.i64.wrap (Int.tdiv a2 (IntKind.i64.wrap (a0.1 * a1))))) rfl)) (wa_take (i := 1) (l' := #[true, true, false, false, false, false, false, false, false, false, false, false]) rfl rfl rfl (by kernel_rfl) H (fun w H => (mv (.int .i64 a1) rfl)) (wa_take (i := 2) (l' := #[true, true, true, false, false, false, false, false, false, false, false, false]) rfl rfl rfl (by kernel_rfl) H (fun w H => (r_mul rfl rfl)) (wa_take (i := 3) (l' := #[true, true, true, true, false, false, false, false, false, false, false, false]) rfl rfl rfl (by kernel_rfl) H (fun w H => (mv (.int .i64 (Int.tmod a2 (IntKind.i64.wrap (a0.1 * a1)))) rfl)) (wa_take (i := 4) (l' := #[true, true, true, true, true, false, false, false, false, false, false, false]) rfl rfl rfl (by kernel_rfl) H (fun w H => (mv (.int .i64 a1) rfl)) ?_))))
      obtain ⟨g12, E⟩ := grd_some E
      refine wa_take (i := 5) (l' := #[true, true, true, true, true, true, false, false, false, false, false, false]) rfl rfl rfl (by kernel_rfl) H (fun w H => (r_rem rfl rfl g12)) (wa_take (i := 6) (l' := #[true, true, true, true, true, true, true, false, false, false, false, false]) rfl rfl rfl (by kernel_rfl) H (fun w H => (r_add rfl rfl)) (wa_take (i := 7) (l' := #[true, true, true, true, true, true, true, true, false, false, false, false]) rfl rfl rfl (by kernel_rfl) H (fun w H => (mv (.int .i64 (Int.tmod a2 (IntKind.i64.wrap (a0.1 * a1)))) rfl)) (wa_take (i := 8) (l' := #[true, true, true, true, true, true, true, true, true, false, false, false]) rfl rfl rfl (by kernel_rfl) H (fun w H => (mv (.int .i64 a1) rfl)) ?_)))
      obtain ⟨g13, E⟩ := grd_some E
      refine wa_take (i := 9) (l' := #[true, true, true, true, true, true, true, true, true, true, false, false]) rfl rfl rfl (by kernel_rfl) H (fun w H => (r_quo rfl rfl g13)) (wa_take (i := 10) (l' := #[true, true, true, true, true, true, true, true, true, true, true, false]) rfl rfl rfl (by kernel_rfl) H (fun w H => (sg (.int .i64 (IntKind.i64.wrap ((IntKind.i64.wrap ((IntKind.i64.wrap (Int.tdiv a2 (IntKind.i64.wrap (a0.1 * a1)))) * a1)) + (Int.tmod (Int.tmod a2 (IntKind.i64.wrap (a0.1 * a1))) a1)))) rfl)) (wa_take (i := 11) (l' := #[true, true, true, true, true, true, true, true, true, true, true, true]) rfl rfl rfl (by kernel_rfl) H (fun w H => (sg (.int .i64 (IntKind.i64.wrap (Int.tdiv (Int.tmod a2 (IntKind.i64.wrap (a0.1 * a1))) a1))) rfl)) (wa_done (by kernel_rfl) (n_thn (wc_ret ?_)))))
      cases E
      exact ⟨.inl rfl, _, tk0 rfl ⟨resN rfl (rv_t (rv_t rv_nil)), rfl, H.sub0⟩⟩
end Go.Proofs.Ythfhhnlnlcbckaa.Gw
