/- The card of the law that what a desk encodes is read back from what it tells: a part of its proof. The conditions are those of the statement. -/
import Derived.Test.YtkndgkbgbmhjoaaGreatDoorRows
import Derived.Test.YtkndgkbgbmhjoaaGreatDoorTie
import Derived.Test.YtkndgkbgbmhjoaaGreatDoorCards
import Derived.Test.YtkndgkbgbmhjoaaGreatDoorQ29
import Derived.Test.YtkndgkbgbmhjoaaGreatDoorQ30
import Derived.Test.YtkndgkbgbmhjoaaGreatDoorQ31
import Derived.WalkKit
import Derived.ProofKit
import Derived.OpenShut
import Derived.Lib.SmallJoins
import Derived.SizedLaws
import Derived.Conc.HoldsTime
import Derived.Deep.DeepLaidRun
import Derived.Stop.LaidErr
import Derived.Lib.LaidTab
import Derived.Shelf.Vars
import Derived.SevenTiedAt
namespace Go.Proofs.YtkndgkbgbmhjoaaGreatDoor.playEncodes
open Go Go.ChangeShapes Go.WideShapes Go.ChangeAt Go.RowKit Go.Lib
set_option linter.unusedVariables false
set_option linter.unusedSimpArgs false
theorem own : ownKnob Tryz.prog.godebug = none := by kernel_rfl
theorem laidOut : laidOutB Tryz.prog = true := by kernel_rfl
theorem noInit : Tryz.prog.inits.idxOf? 3 = none := by kernel_rfl
theorem noHandle : (Rows.playEncodesRow.laid.filter fun x => x.2.handleName?.isSome) = [] := by kernel_rfl
theorem laidH (w : World) : laidMetH Tryz.prog Rows.playEncodesRow.laid w ↔ laidMet Tryz.prog Rows.playEncodesRow.laid w := by
 unfold laidMetH; rw [noHandle]
def setv (cs : Array Value) : Obj → Obj
 | .cells _ t fz => .cells cs t fz
 | o => o
noncomputable def low : Nat := (World.holding Tryz.prog default ⟨#[], #[], []⟩).heap.size
noncomputable def laidWorld (os : Os) : World :=
 let w0 := World.holding Tryz.prog os ⟨#[.cells #[.string ⟨#[118, 97, 108, 117, 101, 32, 111, 117, 116, 32, 111, 102, 32, 114, 97, 110, 103, 101]⟩] 358, .cells #[.string ⟨#[105, 110, 118, 97, 108, 105, 100, 32, 115, 121, 110, 116, 97, 120]⟩] 358], #[], []⟩
 { w0 with heap := (((((((w0.heap.modify 6 (setv #[.int .u8 0, .int .u8 1, .int .u8 28, .int .u8 2, .int .u8 29, .int .u8 14, .int .u8 24, .int .u8 3, .int .u8 30, .int .u8 22, .int .u8 20, .int .u8 15, .int .u8 25, .int .u8 17, .int .u8 4, .int .u8 8, .int .u8 31, .int .u8 27, .int .u8 13, .int .u8 23, .int .u8 21, .int .u8 19, .int .u8 16, .int .u8 7, .int .u8 26, .int .u8 12, .int .u8 18, .int .u8 6, .int .u8 11, .int .u8 5, .int .u8 10, .int .u8 9])).modify 7 (setv #[.int .u8 0, .int .u8 1, .int .u8 56, .int .u8 2, .int .u8 57, .int .u8 49, .int .u8 28, .int .u8 3, .int .u8 61, .int .u8 58, .int .u8 42, .int .u8 50, .int .u8 38, .int .u8 29, .int .u8 17, .int .u8 4, .int .u8 62, .int .u8 47, .int .u8 59, .int .u8 36, .int .u8 45, .int .u8 43, .int .u8 51, .int .u8 22, .int .u8 53, .int .u8 39, .int .u8 33, .int .u8 30, .int .u8 24, .int .u8 18, .int .u8 12, .int .u8 5, .int .u8 63, .int .u8 55, .int .u8 48, .int .u8 27, .int .u8 60, .int .u8 41, .int .u8 37, .int .u8 16, .int .u8 46, .int .u8 35, .int .u8 44, .int .u8 21, .int .u8 52, .int .u8 32, .int .u8 23, .int .u8 11, .int .u8 54, .int .u8 26, .int .u8 40, .int .u8 15, .int .u8 34, .int .u8 20, .int .u8 31, .int .u8 10, .int .u8 25, .int .u8 14, .int .u8 19, .int .u8 9, .int .u8 13, .int .u8 8, .int .u8 7, .int .u8 6])).modify 1 (setv #[.int .u64 1, .int .u64 10, .int .u64 100, .int .u64 1000, .int .u64 10000, .int .u64 100000, .int .u64 1000000, .int .u64 10000000, .int .u64 100000000, .int .u64 1000000000, .int .u64 10000000000, .int .u64 100000000000, .int .u64 1000000000000, .int .u64 10000000000000, .int .u64 100000000000000, .int .u64 1000000000000000, .int .u64 10000000000000000, .int .u64 100000000000000000, .int .u64 1000000000000000000, .int .u64 10000000000000000000])).modify 5 (setv #[.int .u8 128, .int .u8 191, .int .u8 160, .int .u8 191, .int .u8 128, .int .u8 159, .int .u8 144, .int .u8 191, .int .u8 128, .int .u8 143, .int .u8 0, .int .u8 0, .int .u8 0, .int .u8 0, .int .u8 0, .int .u8 0, .int .u8 0, .int .u8 0, .int .u8 0, .int .u8 0, .int .u8 0, .int .u8 0, .int .u8 0, .int .u8 0, .int .u8 0, .int .u8 0, .int .u8 0, .int .u8 0, .int .u8 0, .int .u8 0, .int .u8 0, .int .u8 0])).modify 3 (setv #[.iface 356 (.pointer (some ⟨low + 0, 0, none⟩))])).modify 2 (setv #[.iface 356 (.pointer (some ⟨low + 1, 0, none⟩))])).modify 4 (setv (Go.Pinned.utf8FirstZ.map fun (n : Nat) => Value.int .u8 n).toArray)) }
set_option maxRecDepth 100000 in
theorem laidWorld_met (os : Os) (args : Array Value) : laidMet Tryz.prog Rows.playEncodesRow.laid ((laidWorld os).forCall (fun _ _ => 0) ⟨#[], args, []⟩).memory :=
 laidMet_of_run3 8 (by kernel_rfl) (by kernel_rfl) (by kernel_rfl)
theorem witness {H : Type} {enc : TypeId × Value → H} (os : Os) :
   ∃ (w : World) (tape : Tape) (i : Input), w.os = os ∧ (w.forCall tape i).Shaped Tryz.prog ∧ i.vars = [] ∧ Input.okWide Tryz.prog (w.forCall tape i) .any w.heap.size 3 i ∧
     Rows.playEncodesRow.pre enc Tryz.prog Tryz.f3 (OpenSpec.ofChange Rows.playEncodesSpec) (w.forCall tape i).memory i.args ∧ Rows.playEncodesRow.assume.holds Tryz.prog (lone (Frame.enter Tryz.prog 3 i.args .normal) [] (w.forCall tape i)) :=
 ⟨laidWorld os, fun _ _ => 0, ⟨#[], #[.int .u8 0, .int .u8 0, .int .u8 0, .slice none 0 0], []⟩, rfl, World.shaped_of_B (by kernel_rfl) (by kernel_rfl), rfl, (Input.okWide_of_okWideB (by kernel_rfl)).2,
   ⟨⟨ChangeSpec.pre_of_preB (s := Rows.playEncodesSpec) (fuel := 8) (by kernel_rfl), (laidH _).2 (laidWorld_met os _)⟩, sizedMet_of_sizedB (fuel := 8) (by kernel_rfl)⟩, by
   simp only [Assume.holds]
   exact ⟨by simp [Rows.playEncodesRow, OpenClaim.assume], fun _ _ _ _ => rfl, by simp [Rows.playEncodesRow, OpenClaim.assume], by simp [Rows.playEncodesRow, OpenClaim.assume], by simp [Rows.playEncodesRow, OpenClaim.assume]⟩⟩
theorem envAt {W : World} (hl : laidMet Tryz.prog Rows.playEncodesRow.laid W) (hs : W.ShapedOpen Tryz.prog) : ∃ inst : Gw.LibO, (@Gw.Rs.env inst).inv W := by
 let inst : Gw.LibO := ⟨W.heap[7]?, W.heap[1]?, W.heap[0]?⟩
 have h1 := (Lib.tabIs_of_head (k := .u8) (zs := Gw.dtab) (g := 7) (t := 389) (e := 5) (n := 64) (by kernel_rfl) (by kernel_rfl) Tryz.underlying389 Tryz.underlying5 (by kernel_rfl) (by kernel_rfl) hl.tail : TabIs Tryz.prog W "math/bits.deBruijn64tab" .u8 Gw.dtab)
 have h2 := (Lib.tabIs_of_head (k := .u64) (zs := Lib.pow10Tab) (g := 1) (t := 307) (e := 261) (n := 20) (by kernel_rfl) (by kernel_rfl) Tryz.underlying307 Tryz.underlying261 (by kernel_rfl) (by kernel_rfl) hl.tail.tail : TabIs Tryz.prog W "internal/strconv.uint64pow10" .u64 Lib.pow10Tab)
 refine ⟨inst, ⟨⟨fun i x hx => ?_, rfl⟩, ⟨⟨h2, cell_of_shapedOpen_int (t := 3) (zero := #[.int .i64 0]) hs (Nat.le_of_ble_eq_true (by kernel_rfl)) (by kernel_rfl) rfl (by kernel_rfl) (by kernel_rfl) Tryz.underlying3⟩, rfl, rfl⟩⟩⟩
 have hi := (List.getElem?_eq_some_iff.1 hx).1
 have := h1.cell (g := 7) (by kernel_rfl) i hi
 rw [this]
 congr 2
 rw [List.getD_eq_getElem?_getD, hx]; rfl
theorem leaving_of_calls {a : Assume} {C : Checked} {os : Os} {f : FuncId} {r : Reach} {Pre : World → Array Value → Prop} {Post : World → Array Value → Value → World → Prop}
   (own : ownKnob C.prog.godebug = none) (started : os.Started) (noInit : C.prog.inits.idxOf? f = none)
   (witness : ∃ (w : World) (tape : Tape) (i : Input), w.os = os ∧ (w.forCall tape i).Shaped C.prog ∧ i.vars = [] ∧ Input.okWide C.prog (w.forCall tape i) r w.heap.size f i ∧ Pre (w.forCall tape i).memory i.args ∧
     a.holds C.prog (lone (Frame.enter C.prog f i.args .normal) [] (w.forCall tape i)))
   (contract : ∀ (w : World) (tape : Tape) (i : Input), w.os = os → (w.forCall tape i).ShapedOpen C.prog → i.vars = [] → Input.okWide C.prog (w.forCall tape i) r w.heap.size f i → Pre (w.forCall tape i).memory i.args →
     Calls C.prog f i.args (w.forCall tape i) fun
       | .returned v, w' => Post (w.forCall tape i).blind i.args v w'.blind
       | _, _ => False) : ReturnsInLeavingWide a C os f r Pre Post := fun enter => by
 obtain ⟨w0, t0, i0, a1, a2, a3, a4, a5, a6⟩ := witness
 refine ⟨enter, own, started, ⟨w0, t0, i0, a1, a2, a3, a4, a5, a6, trivial⟩, fun w tape i h => ?_⟩
 obtain ⟨n, v, w', fr, hn, hend, hp⟩ := (contract w tape i h.1 h.2.1 h.2.2.1 h.2.2.2.1 h.2.2.2.2.1).done_lone noInit
 obtain ⟨q1, q2, q3⟩ := alone_of_lone (w' := w') hn
 exact ⟨n + 1, v, w', hend, (clean_of_lone hn).2, roomy_placeholder .., hp, ⟨n, _, hn, step_of_runs hn hend, q2, ⟨by simp [lone], by simp [lone]⟩, q3⟩, fun _ _ _ => trivial⟩
set_option maxRecDepth 100000 in
theorem lifted (os : Os) (started : os.Started) (H : Type) (enc : TypeId × Value → H) (F : Stop.Interp) :
   ReturnsInLeavingWide Rows.playEncodesRow.assume Tryz.checked os 3 .any (Rows.playEncodesRow.pre enc Tryz.prog Tryz.f3 (OpenSpec.ofChange Rows.playEncodesSpec)) ((OpenSpec.ofChange Rows.playEncodesSpec).postWith enc Tryz.prog Tryz.f3 F (outsideKept [.timePasses]) Rows.playEncodesRow.apart Rows.playEncodesRow.fresh Rows.playEncodesRow.handsOn) := by
 refine leaving_of_calls (C := Tryz.checked) own started noInit (witness os) ?_
 intro w tape i _ hshape _ hok hpre
 obtain ⟨_, _, _, fn', hfn', _, _, _, _, hval0⟩ := hok
 obtain rfl : fn' = Tryz.f3 := Option.some.inj (hfn'.symm.trans Tryz.func3)
 obtain ⟨⟨hp, hl0⟩, hz⟩ := hpre
 obtain ⟨ds, gs, before, hw, hcnd⟩ := hp
 have hl := laidMet.of_heap (w := (w.forCall tape i).memory) (w' := w.forCall tape i) rfl ((laidH _).1 hl0)
 have hW : DataW.Whole enc Tryz.prog Tryz.f3.params.toList Rows.playEncodesSpec.vars false (w.forCall tape i) i.args.toList ds gs before := DataW.Whole.of_heap (w' := w.forCall tape i) (by rfl) hw
 have hsz0 := hz.weights hw
 obtain ⟨inst, henv⟩ := envAt hl hshape
 generalize w.forCall tape i = W at *
 generalize w.heap.size = base at *
 generalize i.args = args at *
 have hval : ∀ (j : Nat) t v, Tryz.f3.params[j]? = some t → args[j]? = some v → Value.okWide Tryz.prog W .any base t v := hval0
 have hW' := hW
 obtain ⟨p, q, hA0, hV, rfl, hfz, hnd⟩ := hW
 have hA : DataW.TrodAll enc Tryz.prog W 0 (fun _ => true) true Tryz.f3.params.toList args.toList ds p := hA0
 have hsz : (DataW.weightsEach Tryz.prog (Tryz.f3.params.toList ++ Rows.playEncodesSpec.plain.varTypes Tryz.prog) (ds ++ gs)).all (· ≤ reachBytes) = true := hsz0
 rw [Tryz.params3] at hA hval hsz
 obtain ⟨v0, vs0, d0, ds0, p0, q0, hargs, rfl, rfl, h0, r0⟩ := trodAll_cons hA
 obtain ⟨v1, vs1, d1, ds1, p1, q1, rfl, rfl, rfl, h1, r1⟩ := trodAll_cons r0
 obtain ⟨v2, vs2, d2, ds2, p2, q2, rfl, rfl, rfl, h2, r2⟩ := trodAll_cons r1
 obtain ⟨v3, vs3, d3, ds3, p3, q3, rfl, rfl, rfl, h3, r3⟩ := trodAll_cons r2
 obtain ⟨rfl, rfl, rfl⟩ := trodAll_nil r3
 obtain rfl : args = #[v0, v1, v2, v3] := by cases args; simp_all
 obtain ⟨rfl, rfl⟩ := trodVars_none hV
 obtain ⟨a0, rfl, rfl, rfl, w0⟩ := open_int Tryz.underlying5 (hval 0 5 v0 rfl rfl) h0
 have b0 := Gw.wf_u8 w0
 obtain ⟨a1, rfl, rfl, rfl, w1⟩ := open_int Tryz.underlying5 (hval 1 5 v1 rfl rfl) h1
 have b1 := Gw.wf_u8 w1
 obtain ⟨a2, rfl, rfl, rfl, w2⟩ := open_int Tryz.underlying5 (hval 2 5 v2 rfl rfl) h2
 have b2 := Gw.wf_u8 w2
 obtain ⟨a3, R3, z3, b3⟩ := Gw.open_rd (e := (.int .u8)) (E := 5) (by_ := 1) Tryz.underlying22 (by kernel_rfl) (by kernel_rfl) (Gw.opn_int Tryz.underlying5) (hval 3 22 v3 rfl rfl) h3 hsz 3 rfl rfl
 clear hA0 hval0 hsz0
 simp only [List.append_nil] at hW'
 refine (Gw.law24_PlayEncodes.calls (w0 := W) (k := 100000) (a0 := a0) (a1 := a1) (a2 := a2) (a3 := a3) henv R3 (r := true) (Gw.PlayEncodes_pure b0 b1 b2 (Gw.byts_wf b3))).mono fun e W' ⟨he, hg⟩ => ?_
 subst he
 have hB := Gw.env_below hg henv
 refine postWith_blind (postWith_of_post ?_ ?_)
 · have e : ({ W' with os := W.os } : World) = W' := by rw [← hB.os]
   rw [e]
   exact Gw.law_post laidOut (by kernel_rfl) (by kernel_rfl) Tryz.underlying4 rfl (by simpa using hW') rfl (by simp [Rows.playEncodesSpec]) rfl hB.below
 · rw [hB.os]; exact ⟨0, rfl⟩
theorem over : Rows.playEncodesRow.holds Tryz.pinned (OpenSpec.ofChange Rows.playEncodesSpec) :=
 OpenClaim.holds_of_wide_leaving_time 3 Tryz.f3 rfl rfl rfl rfl rfl rfl rfl ⟨rfl, rfl, rfl, rfl, rfl⟩ rfl rfl rfl rfl rfl (by kernel_rfl) Tryz.func3 closed
   (of_decide_eq_true (by kernel_rfl)) (by unfold Func.isWrapper; first | (rw [if_pos (by decide +kernel)]; kernel_rfl) | (rw [if_neg (by decide +kernel)]; exact ⟨rfl, rfl⟩))
   (fun os started H enc _ F => lifted os started H enc F)
theorem holds_tied_goes (Lk : Looks) {p : Pinned} {s : OpenSpec} {c : OpenClaim} (kinds : List LaidKind) (tests : Bool) (har : Bool × String) (lk : Bool)
   (hc : c.holds p s) (hw : c.wfByText s = true) (htie : c.laidByTextAt Lk p kinds tests)
   (hst : c.start = .entering) (hnb : c.noBlocks = false ∧ c.again = false) (hm : p.checked.prog.mainIs = some (har.1, har.2.toList)) (hn : (!har.1 && har.2.isEmpty && !lk) = false)
   (hl : ∀ f fn, p.checked.prog.funcNamed c.func = some f → p.checked.prog.funcs[f]? = some fn → lk = p.checked.prog.looks [] ∧ ∀ (j : Nat) t, fn.params[j]? = some t → p.checked.prog.wantsStandIn t = false)
   (hg : true = c.goesBy p.checked.prog) :
   Claim7.holds p (.plain s) { stood := { row := c, standIns := [], harness := har, looks := lk }, kinds := [], alts := [], goes := true, laidByText := true, laidKinds := kinds, laidTests := tests, laidLooks := Lk } := by
 have h6 : ∀ r : OpenClaim, Claim7.isSixth { stood := { row := r, standIns := [], harness := har, looks := lk }, kinds := [] } = false := fun r => by simpa [Claim7.isSixth] using hn
 exact ⟨Claim7.tied_new_at Lk kinds tests (Claim7.new_of_sixth hc har lk hst hnb hm (h6 c) hl) hw, (fun D hD => by cases hD), htie, (fun h => by cases h), hg⟩
set_option maxRecDepth 100000 in
/-- THE STATEMENT -/
theorem proved : Rows.PlayEncodesCardSaid :=
 holds_tied_goes .later [.data, .data, .data, .data, .sentinel, .sentinel, .pinned] true (true, "fad6012ebf906241fd596e6c628bd5063e77c4e4476d33fc5f98a79f0dccaa25") true over (by kernel_rfl) playEncodes_row_tie rfl ⟨rfl, rfl⟩ (by kernel_rfl) rfl
   (fun f fn hf hfn => by
     obtain rfl : f = 3 := Option.some.inj ((show Tryz.prog.funcNamed "erratum/erratumlaw24.PlayEncodes" = some 3 by kernel_rfl).symm.trans hf) |>.symm
     obtain rfl : fn = Tryz.f3 := (Option.some.inj (Tryz.func3.symm.trans hfn)).symm
     refine ⟨by kernel_rfl, fun j t ht => ?_⟩
     have hall : (Tryz.f3.params.toList.all fun t => !Tryz.prog.wantsStandIn t) = true := by kernel_rfl
     have hm : t ∈ Tryz.f3.params.toList := Array.mem_toList_iff.2 (Array.mem_of_getElem? ht)
     have := List.all_eq_true.1 hall t hm
     show Tryz.prog.wantsStandIn t = false
     simpa using this)
   (by kernel_rfl)
#print axioms proved
end Go.Proofs.YtkndgkbgbmhjoaaGreatDoor.playEncodes
