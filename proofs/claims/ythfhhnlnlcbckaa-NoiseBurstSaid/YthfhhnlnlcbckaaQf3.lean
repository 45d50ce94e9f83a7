/- erratum/erratumlaw19.PickAsks -/
/- PRINTED by gwmain.py of this project. -/
import Derived.Test.YthfhhnlnlcbckaaQ0
import Derived.Test.YthfhhnlnlcbckaaQf12
import Derived.Test.YthfhhnlnlcbckaaQf13
import Derived.Test.YthfhhnlnlcbckaaQf14
namespace Go.Proofs.Ythfhhnlnlcbckaa.Gw
open Go Go.RowKit
set_option linter.unusedVariables false
set_option linter.unusedSimpArgs false
def law19_PickAsks.f (k : Nat) (a0 : Int × Int × Int) (a1 : Int) (a2 : Int × Int) (a3 : Int) (a4 : Int) (a5 : Int) (a6 : Int) (a7 : Int) : Option (Bool) := (law10_Code.f a3 a4 a5).bind fun x3 => (law19_known.f k).bind fun x7 => bif x7 then ((law19_asks.f (a0.1, a0.2.1, a0.2.2) a1 (a2.1, a2.2)).bind fun x10 => bif x10 then ((law19_asks.f (x3.1, x3.2.1, x3.2.2) a1 (a2.1, a2.2)).bind fun x13 => bif x13 then ((law19_asks.f (x3.1, x3.2.1, x3.2.2) (IntKind.i64.wrap a6) (IntKind.i64.wrap (Int.tmod a7 5), IntKind.i64.wrap (Int.tmod (IntKind.u8.wrap (Int.tdiv a7 5)) 5))).bind fun x16 => bif x16 then ((law19_asks.f (a0.1, a0.2.1, a0.2.2) (IntKind.i64.wrap a6) (IntKind.i64.wrap (Int.tmod a7 5), IntKind.i64.wrap (Int.tmod (IntKind.u8.wrap (Int.tdiv a7 5)) 5))).bind fun x19 => some x19) else (some false)) else (some false)) else (some false)) else (some false)
set_option maxRecDepth 100000 in
set_option maxHeartbeats 4000000 in
theorem law19_PickAsks.calls {w0 : World} {k : Nat} {a0 : Int × Int × Int} {a1 : Int} {a2 : Int × Int} {a3 : Int} {a4 : Int} {a5 : Int} {a6 : Int} {a7 : Int} {r : Bool}  (E : law19_PickAsks.f k a0 a1 a2 a3 a4 a5 a6 a7 = some r) :
    Calls Try.prog 3 #[.agg #[.int .i64 a0.1, .int .i64 a0.2.1, .int .i64 a0.2.2], .int .i64 a1, .agg #[.int .i64 a2.1, .int .i64 a2.2], .int .u8 a3, .int .u8 a4, .int .u8 a5, .int .i8 a6, .int .u8 a7] w0 fun e w' => e = .returned (.bool r) ∧ St no w0 w' [] := by
  have H := St.nil no w0
  unfold law19_PickAsks.f at E
  refine calls_of_wc (N := 58) (args := [.agg #[.int .i64 a0.1, .int .i64 a0.2.1, .int .i64 a0.2.2], .int .i64 a1, .agg #[.int .i64 a2.1, .int .i64 a2.2], .int .u8 a3, .int .u8 a4, .int .u8 a5, .int .i8 a6, .int .u8 a7]) Try.func3 rfl rfl (by simp) ?_
  refine rg (e_ rfl (y_boxS (cs := #[.int .i64 a0.1, .int .i64 a0.2.1, .int .i64 a0.2.2]) H rfl (fun b1 w H => (e_ rfl (y_boxS (cs := #[.int .i64 a2.1, .int .i64 a2.2]) H rfl (fun b2 w H => (v_ rfl (sg (.bool false) rfl) (nl (rg (v_ rfl (mv (.int .u8 a3) rfl) (v_ rfl (mv (.int .u8 a4) rfl) (v_ rfl (mv (.int .u8 a5) rfl) ?_))))))))))))
  obtain ⟨x3, E4, E⟩ := bind_some E
  refine e_ rfl (y_callL en_12 rfl ((law10_Code.calls E4).mono ?_))
  rintro _ w ⟨rfl, K⟩
  have H := H.app K
  refine ⟨_, rfl, (e_ rfl (y_allocS zr_23 H (fun b5 w H => (s_ (y_storeBA sz_23 H 2 rfl rfl rfl rfl rfl rfl (fun w H => (nl (rg ?_))))))))⟩
  have H : St no w0 w [.blk b1 #[.int .i64 a0.1, .int .i64 a0.2.1, .int .i64 a0.2.2] 23, .blk b2 #[.int .i64 a2.1, .int .i64 a2.2] 25, .blk b5 #[.int .i64 x3.1, .int .i64 x3.2.1, .int .i64 x3.2.2] 23] := H
  refine v_ rfl (mv (.int .u8 a7) rfl) (v_ rfl (r_rem rfl rfl (by decide)) (v_ rfl (r_conv rfl Try.underlying5 Try.underlying3) (v_ rfl (mv (.int .u8 a7) rfl) (v_ rfl (r_quo rfl rfl (by decide)) (v_ rfl (r_rem rfl rfl (by decide)) (v_ rfl (r_conv rfl Try.underlying5 Try.underlying3) (v_ rfl (r_build (cs := [.int .i64 (IntKind.i64.wrap (Int.tmod a7 5)), .int .i64 (IntKind.i64.wrap (Int.tmod (IntKind.u8.wrap (Int.tdiv a7 5)) 5))]) bd_25 rfl) (e_ rfl (y_allocS zr_25 H (fun b6 w H => (s_ (y_storeBA sz_25 H 3 rfl rfl rfl rfl rfl rfl (fun w H => (nl (rg ?_)))))))))))))))
  obtain ⟨x7, E8, E⟩ := bind_some E
  refine e_ rfl (y_callL en_13 rfl ((law19_known.calls E8).mono ?_))
  rintro _ w ⟨rfl, K⟩
  have H := H.app K
  refine ⟨_, rfl, (v_ rfl (mv (.bool x7) rfl) ?_)⟩
  rcases Bool.eq_false_or_eq_true (x7) with c9 | c9
  · have E := iT c9 E
    refine on_ c9 rfl rfl (r_loadB (l := [.int .i64 a0.1, .int .i64 a0.2.1, .int .i64 a0.2.2]) ag_23 (H.get 0 rfl) rfl rfl rfl) (on_ c9 rfl rfl (mv (.int .i64 a1) rfl) (on_ c9 rfl rfl (r_loadB (l := [.int .i64 a2.1, .int .i64 a2.2]) ag_25 (H.get 1 rfl) rfl rfl rfl) ?_))
    obtain ⟨x10, E11, E⟩ := bind_some E
    refine wl_on rfl c9 rfl (y_callL en_14 rfl ((law19_asks.calls E11).mono ?_))
    rintro _ w ⟨rfl, K⟩
    have H := H.app K
    refine ⟨_, rfl, (v_ rfl (pT (.bool x10) rfl rfl c9) (v_ rfl (mv (.bool x10) rfl) ?_))⟩
    rcases Bool.eq_false_or_eq_true (x10) with c12 | c12
    · have E := iT c12 E
      refine on_ c12 rfl rfl (r_loadB (l := [.int .i64 x3.1, .int .i64 x3.2.1, .int .i64 x3.2.2]) ag_23 (H.get 2 rfl) rfl rfl rfl) (on_ c12 rfl rfl (mv (.int .i64 a1) rfl) (on_ c12 rfl rfl (r_loadB (l := [.int .i64 a2.1, .int .i64 a2.2]) ag_25 (H.get 1 rfl) rfl rfl rfl) ?_))
      obtain ⟨x13, E14, E⟩ := bind_some E
      refine wl_on rfl c12 rfl (y_callL en_14 rfl ((law19_asks.calls E14).mono ?_))
      rintro _ w ⟨rfl, K⟩
      have H := H.app K
      refine ⟨_, rfl, ?_⟩
      have H : St no w0 w [.blk b1 #[.int .i64 a0.1, .int .i64 a0.2.1, .int .i64 a0.2.2] 23, .blk b2 #[.int .i64 a2.1, .int .i64 a2.2] 25, .blk b5 #[.int .i64 x3.1, .int .i64 x3.2.1, .int .i64 x3.2.2] 23, .blk b6 #[.int .i64 (IntKind.i64.wrap (Int.tmod a7 5)), .int .i64 (IntKind.i64.wrap (Int.tmod (IntKind.u8.wrap (Int.tdiv a7 5)) 5))] 25] := H
      refine v_ rfl (pT (.bool x13) rfl rfl c12) (v_ rfl (mv (.bool x13) rfl) ?_)
      rcases Bool.eq_false_or_eq_true (x13) with c15 | c15
      · have E := iT c15 E
        refine on_ c15 rfl rfl (r_loadB (l := [.int .i64 x3.1, .int .i64 x3.2.1, .int .i64 x3.2.2]) ag_23 (H.get 2 rfl) rfl rfl rfl) (on_ c15 rfl rfl (mv (.int .i8 a6) rfl) (on_ c15 rfl rfl (r_conv rfl Try.underlying26 Try.underlying3) (on_ c15 rfl rfl (r_loadB (l := [.int .i64 (IntKind.i64.wrap (Int.tmod a7 5)), .int .i64 (IntKind.i64.wrap (Int.tmod (IntKind.u8.wrap (Int.tdiv a7 5)) 5))]) ag_25 (H.get 3 rfl) rfl rfl rfl) ?_)))
        obtain ⟨x16, E17, E⟩ := bind_some E
        refine wl_on rfl c15 rfl (y_callL en_14 rfl ((law19_asks.calls E17).mono ?_))
        rintro _ w ⟨rfl, K⟩
        have H := H.app K
        refine ⟨_, rfl, (v_ rfl (pT (.bool x16) rfl rfl c15) (v_ rfl (mv (.bool x16) rfl) ?_))⟩
        rcases Bool.eq_false_or_eq_true (x16) with c18 | c18
        · have E := iT c18 E
          refine on_ c18 rfl rfl (r_loadB (l := [.int .i64 a0.1, .int .i64 a0.2.1, .int .i64 a0.2.2]) ag_23 (H.get 0 rfl) rfl rfl rfl) (on_ c18 rfl rfl (mv (.int .i8 a6) rfl) (on_ c18 rfl rfl (r_conv rfl Try.underlying26 Try.underlying3) (on_ c18 rfl rfl (r_loadB (l := [.int .i64 (IntKind.i64.wrap (Int.tmod a7 5)), .int .i64 (IntKind.i64.wrap (Int.tmod (IntKind.u8.wrap (Int.tdiv a7 5)) 5))]) ag_25 (H.get 3 rfl) rfl rfl rfl) ?_)))
          obtain ⟨x19, E20, E⟩ := bind_some E
          refine wl_on rfl c18 rfl (y_callL en_14 rfl ((law19_asks.calls E20).mono ?_))
          rintro _ w ⟨rfl, K⟩
          have H := H.app K
          refine ⟨_, rfl, (v_ rfl (pT (.bool x19) rfl rfl c18) (v_ rfl (sg (.bool x19) rfl) (nl (wc_ret ?_))))⟩
          cases E
          exact ⟨.inl rfl, _, resN rfl (rv_t rv_nil), rfl, H.sub0⟩
        · have E := iF c18 E
          refine off_ c18 rfl rfl rfl (off_ c18 rfl rfl rfl (off_ c18 rfl rfl rfl (off_ c18 rfl rfl rfl (off_ c18 rfl rfl rfl (v_ rfl (pF (.bool false) rfl rfl c18) (v_ rfl (sg (.bool false) rfl) (nl (wc_ret ?_))))))))
          cases E
          exact ⟨.inl rfl, _, resN rfl (rv_t rv_nil), rfl, H.sub0⟩
      · have E := iF c15 E
        refine off_ c15 rfl rfl rfl (off_ c15 rfl rfl rfl (off_ c15 rfl rfl rfl (off_ c15 rfl rfl rfl (off_ c15 rfl rfl rfl (v_ rfl (pF (.bool false) rfl rfl c15) (v_ rfl (mv (.bool false) rfl) (off_ rfl rfl rfl rfl (off_ rfl rfl rfl rfl (off_ rfl rfl rfl rfl (off_ rfl rfl rfl rfl (off_ rfl rfl rfl rfl (v_ rfl (pF (.bool false) rfl rfl rfl) (v_ rfl (sg (.bool false) rfl) (nl (wc_ret ?_)))))))))))))))
        cases E
        exact ⟨.inl rfl, _, resN rfl (rv_t rv_nil), rfl, H.sub0⟩
    · have E := iF c12 E
      refine off_ c12 rfl rfl rfl (off_ c12 rfl rfl rfl (off_ c12 rfl rfl rfl (off_ c12 rfl rfl rfl (v_ rfl (pF (.bool false) rfl rfl c12) (v_ rfl (mv (.bool false) rfl) (off_ rfl rfl rfl rfl (off_ rfl rfl rfl rfl (off_ rfl rfl rfl rfl (off_ rfl rfl rfl rfl (off_ rfl rfl rfl rfl (v_ rfl (pF (.bool false) rfl rfl rfl) (v_ rfl (mv (.bool false) rfl) (off_ rfl rfl rfl rfl (off_ rfl rfl rfl rfl (off_ rfl rfl rfl rfl (off_ rfl rfl rfl rfl (off_ rfl rfl rfl rfl (v_ rfl (pF (.bool false) rfl rfl rfl) (v_ rfl (sg (.bool false) rfl) (nl (wc_ret ?_)))))))))))))))))))))
      cases E
      exact ⟨.inl rfl, _, resN rfl (rv_t rv_nil), rfl, H.sub0⟩
  · have E := iF c9 E
    refine off_ c9 rfl rfl rfl (off_ c9 rfl rfl rfl (off_ c9 rfl rfl rfl (off_ c9 rfl rfl rfl (v_ rfl (pF (.bool false) rfl rfl c9) (v_ rfl (mv (.bool false) rfl) (off_ rfl rfl rfl rfl (off_ rfl rfl rfl rfl (off_ rfl rfl rfl rfl (off_ rfl rfl rfl rfl (v_ rfl (pF (.bool false) rfl rfl rfl) (v_ rfl (mv (.bool false) rfl) (off_ rfl rfl rfl rfl (off_ rfl rfl rfl rfl (off_ rfl rfl rfl rfl (off_ rfl rfl rfl rfl (off_ rfl rfl rfl rfl (v_ rfl (pF (.bool false) rfl rfl rfl) (v_ rfl (mv (.bool false) rfl) (off_ rfl rfl rfl rfl (off_ rfl rfl rfl rfl (off_ rfl rfl rfl rfl (off_ rfl rfl rfl rfl (off_ rfl rfl rfl rfl (v_ rfl (pF (.bool false) rfl rfl rfl) (v_ rfl (sg (.bool false) rfl) (nl (wc_ret ?_)))))))))))))))))))))))))))
    cases E
    exact ⟨.inl rfl, _, resN rfl (rv_t rv_nil), rfl, H.sub0⟩
end Go.Proofs.Ythfhhnlnlcbckaa.Gw
