/- erratum/erratumlaw18.Small -/
/- PRINTED by gwmain.py of this project. -/
import Derived.Test.YthfhhnlnlcbckaaQ0
import Derived.Test.YthfhhnlnlcbckaaQf12
namespace Go.Proofs.Ythfhhnlnlcbckaa.Gw
open Go Go.RowKit
set_option linter.unusedVariables false
set_option linter.unusedSimpArgs false
def law18_Small.f (a0 : Int) (a1 : Int) (a2 : Int) : Option ((Int × Int × Int)) := (law10_Code.f (Int.tmod a0 31) a1 a2).bind fun x2 => some (x2.1, x2.2.1, x2.2.2)
set_option maxRecDepth 100000 in
set_option maxHeartbeats 4000000 in
theorem law18_Small.calls {w0 : World} {a0 : Int} {a1 : Int} {a2 : Int} {r : (Int × Int × Int)}  (E : law18_Small.f a0 a1 a2 = some r) :
    Calls Try.prog 22 #[.int .u8 a0, .int .u8 a1, .int .u8 a2] w0 fun e w' => e = .returned (.agg #[.int .i64 r.1, .int .i64 r.2.1, .int .i64 r.2.2]) ∧ St no w0 w' [] := by
  have H := St.nil no w0
  unfold law18_Small.f at E
  refine calls_of_wc (N := 12) (args := [.int .u8 a0, .int .u8 a1, .int .u8 a2]) Try.func22 rfl rfl (by simp) ?_
  refine rg (e_ rfl (y_allocS zr_23 H (fun b1 w H => (nl (rg (v_ rfl (mv (.int .u8 a0) rfl) (v_ rfl (r_rem rfl rfl (by decide)) (v_ rfl (mv (.int .u8 a1) rfl) (v_ rfl (mv (.int .u8 a2) rfl) ?_)))))))))
  obtain ⟨x2, E3, E⟩ := bind_some E
  refine e_ rfl (y_callL en_12 rfl ((law10_Code.calls E3).mono ?_))
  rintro _ w ⟨rfl, K⟩
  have H := H.app K
  refine ⟨_, rfl, (s_ (y_storeBA sz_23 H 0 rfl rfl rfl rfl rfl rfl (fun w H => (nl (wc_ret ?_)))))⟩
  cases E
  exact ⟨.inl rfl, _, resN rfl (rv_c rfl ag_23 (blk_range (n := 3) (H.get 0 rfl) rfl) rfl rv_nil), rfl, H.sub0⟩
end Go.Proofs.Ythfhhnlnlcbckaa.Gw
