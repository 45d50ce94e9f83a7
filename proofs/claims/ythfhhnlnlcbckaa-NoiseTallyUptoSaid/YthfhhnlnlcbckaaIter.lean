/- What slices.Sorted(maps.Keys(m)) gives of a set of ints: its keys, rising. The layings are the shelf's, in plain words. -/
import Derived.Shelf.SlIterI.Nil
import Derived.Shelf.SortM.Plain
import Derived.Shelf.SortM.SortNone
import Derived.Test.YthfhhnlnlcbckaaGa
import Derived.Test.YthfhhnlnlcbckaaProg
namespace Go.Proofs.Ythfhhnlnlcbckaa.Gw
open Go Go.Proofs Go.RowKit Go.Maps Go.Sort Go.Shelf
def keysA_ren : Go.Shelf.Ren := ⟨fun | 7 => 44 | 10 => 58 | n => n, fun | 23 => 79 | 26 => 3 | 3 => 87 | 28 => 85 | 0 => 0 | 27 => 84 | 33 => 102 | 4 => 4 | n => n, fun | n => n⟩
theorem keysA : Go.Proofs.SlLaysZI.n7 Try.prog keysA_ren := {
  mixed := by kernel_rfl
  f7 := ⟨Try.f44.name, by decide, Try.func44.trans (congrArg some (by kernel_rfl))⟩
  f10 := ⟨Try.f58.name, by decide, Try.func58.trans (congrArg some (by kernel_rfl))⟩
  t0 := Try.underlying0
  a0 := Try.isAgg0
  z0 := Try.sizeOf0
  v0 := Try.zeroValue0
  t4 := Try.underlying4
  a4 := Try.isAgg4
  z4 := Try.sizeOf4
  v4 := Try.zeroValue4
  t23 := Try.underlying79
  a23 := Try.isAgg79
  z23 := Try.sizeOf79
  v23 := Try.zeroValue79
  t26 := Try.underlying3
  a26 := Try.isAgg3
  z26 := Try.sizeOf3
  v26 := Try.zeroValue3
  t27 := Try.underlying84
  a27 := Try.isAgg84
  z27 := Try.sizeOf84
  v27 := Try.zeroValue84
  t28 := Try.underlying85
  a28 := Try.isAgg85
  z28 := Try.sizeOf85
  v28 := Try.zeroValue85
  t33 := Try.underlying102
  a33 := Try.isAgg102
  z33 := Try.sizeOf102
  v33 := Try.zeroValue102 }
def sortedA_ren : Go.Shelf.Ren := ⟨fun | 6 => 43 | 8 => 56 | 9 => 57 | 11 => 70 | 13 => 72 | 12 => 71 | 23 => 87 | 24 => 88 | 14 => 78 | 15 => 79 | 16 => 80 | 17 => 81 | 18 => 82 | 19 => 83 | 20 => 84 | 21 => 85 | 22 => 86 | 25 => 95 | 26 => 96 | 27 => 97 | 28 => 98 | 29 => 99 | 30 => 100 | 31 => 104 | n => n, fun | 26 => 3 | 28 => 85 | 24 => 44 | 0 => 0 | 3 => 3 | 37 => 91 | 48 => 133 | 50 => 135 | 4 => 4 | 40 => 125 | 39 => 124 | 45 => 130 | 5 => 5 | 9 => 9 | 51 => 141 | 55 => 145 | 57 => 150 | 58 => 99 | 33 => 102 | n => n, fun | n => n⟩
theorem sortedA : Go.Proofs.SlLaysZI.n6 Try.prog sortedA_ren := {
  mixed := by kernel_rfl
  f6 := ⟨Try.f43.name, by decide, Try.func43.trans (congrArg some (by kernel_rfl))⟩
  f8 := ⟨Try.f56.name, by decide, Try.func56.trans (congrArg some (by kernel_rfl))⟩
  f11 := ⟨Try.f70.name, by decide, Try.func70.trans (congrArg some (by kernel_rfl))⟩
  t0 := Try.underlying0
  a0 := Try.isAgg0
  z0 := Try.sizeOf0
  v0 := Try.zeroValue0
  t24 := Try.underlying44
  a24 := Try.isAgg44
  z24 := Try.sizeOf44
  v24 := Try.zeroValue44
  t26 := Try.underlying3
  a26 := Try.isAgg3
  z26 := Try.sizeOf3
  v26 := Try.zeroValue3
  t28 := Try.underlying85
  a28 := Try.isAgg85
  z28 := Try.sizeOf85
  v28 := Try.zeroValue85
  i26 := by kernel_rfl }
def sortA_ren : Go.Shelf.Ren := ⟨fun | 5 => 57 | 8 => 72 | 7 => 71 | 19 => 87 | 20 => 88 | 10 => 78 | 11 => 79 | 12 => 80 | 13 => 81 | 14 => 82 | 15 => 83 | 16 => 84 | 17 => 85 | 18 => 86 | 30 => 95 | 31 => 96 | 32 => 97 | 33 => 98 | 34 => 99 | 35 => 100 | 40 => 104 | n => n, fun | 23 => 44 | 25 => 3 | 3 => 3 | 32 => 91 | 22 => 44 | 0 => 0 | 44 => 133 | 46 => 135 | 4 => 4 | 36 => 125 | 35 => 124 | 41 => 130 | 5 => 5 | 9 => 9 | 53 => 141 | 57 => 145 | 63 => 150 | 64 => 99 | n => n, fun | n => n⟩
theorem sortA : Go.Proofs.SlLaysM.n5 Try.prog sortA_ren := {
  mixed := by kernel_rfl
  f5 := ⟨Try.f57.name, by decide, Try.func57.trans (congrArg some (by kernel_rfl))⟩
  f7 := ⟨Try.f71.name, by decide, Try.func71.trans (congrArg some (by kernel_rfl))⟩
  f8 := Try.func72.trans (congrArg some (by kernel_rfl))
  f10 := ⟨Try.f78.name, by decide, Try.func78.trans (congrArg some (by kernel_rfl))⟩
  f11 := ⟨Try.f79.name, by decide, Try.func79.trans (congrArg some (by kernel_rfl))⟩
  f12 := ⟨Try.f80.name, by decide, Try.func80.trans (congrArg some (by kernel_rfl))⟩
  f13 := ⟨Try.f81.name, by decide, Try.func81.trans (congrArg some (by kernel_rfl))⟩
  f14 := ⟨Try.f82.name, by decide, Try.func82.trans (congrArg some (by kernel_rfl))⟩
  f15 := ⟨Try.f83.name, by decide, Try.func83.trans (congrArg some (by kernel_rfl))⟩
  f16 := ⟨Try.f84.name, by decide, Try.func84.trans (congrArg some (by kernel_rfl))⟩
  f17 := ⟨Try.f85.name, by decide, Try.func85.trans (congrArg some (by kernel_rfl))⟩
  f18 := ⟨Try.f86.name, by decide, Try.func86.trans (congrArg some (by kernel_rfl))⟩
  f19 := Try.func87.trans (congrArg some (by kernel_rfl))
  f20 := Try.func88.trans (congrArg some (by kernel_rfl))
  f30 := ⟨Try.f95.name, by decide, Try.func95.trans (congrArg some (by kernel_rfl))⟩
  f31 := Try.func96.trans (congrArg some (by kernel_rfl))
  f32 := Try.func97.trans (congrArg some (by kernel_rfl))
  f33 := ⟨Try.f98.name, by decide, Try.func98.trans (congrArg some (by kernel_rfl))⟩
  f34 := ⟨Try.f99.name, by decide, Try.func99.trans (congrArg some (by kernel_rfl))⟩
  f35 := ⟨Try.f100.name, by decide, Try.func100.trans (congrArg some (by kernel_rfl))⟩
  f40 := ⟨Try.f104.name, by decide, Try.func104.trans (congrArg some (by kernel_rfl))⟩
  t0 := Try.underlying0
  a0 := Try.isAgg0
  z0 := Try.sizeOf0
  v0 := Try.zeroValue0
  t3 := Try.underlying3
  a3 := Try.isAgg3
  z3 := Try.sizeOf3
  v3 := Try.zeroValue3
  t4 := Try.underlying4
  a4 := Try.isAgg4
  z4 := Try.sizeOf4
  v4 := Try.zeroValue4
  t5 := Try.underlying5
  a5 := Try.isAgg5
  z5 := Try.sizeOf5
  v5 := Try.zeroValue5
  t9 := Try.underlying9
  a9 := Try.isAgg9
  z9 := Try.sizeOf9
  v9 := Try.zeroValue9
  t22 := Try.underlying44
  a22 := Try.isAgg44
  z22 := Try.sizeOf44
  v22 := Try.zeroValue44
  t23 := Try.underlying44
  a23 := Try.isAgg44
  z23 := Try.sizeOf44
  v23 := Try.zeroValue44
  t25 := Try.underlying3
  a25 := Try.isAgg3
  z25 := Try.sizeOf3
  v25 := Try.zeroValue3
  t32 := Try.underlying91
  a32 := Try.isAgg91
  z32 := Try.sizeOf91
  v32 := Try.zeroValue91
  t35 := Try.underlying124
  a35 := Try.isAgg124
  z35 := Try.sizeOf124
  v35 := Try.zeroValue124
  t36 := Try.underlying125
  a36 := Try.isAgg125
  z36 := Try.sizeOf125
  v36 := Try.zeroValue125
  t41 := Try.underlying130
  a41 := Try.isAgg130
  z41 := Try.sizeOf130
  v41 := Try.zeroValue130
  t44 := Try.underlying133
  a44 := Try.isAgg133
  z44 := Try.sizeOf133
  v44 := Try.zeroValue133
  t46 := Try.underlying135
  a46 := Try.isAgg135
  z46 := Try.sizeOf135
  v46 := Try.zeroValue135
  t53 := Try.underlying141
  a53 := Try.isAgg141
  z53 := Try.sizeOf141
  v53 := Try.zeroValue141
  t57 := Try.underlying145
  a57 := Try.isAgg145
  z57 := Try.sizeOf145
  v57 := Try.zeroValue145
  t63 := Try.underlying150
  a63 := Try.isAgg150
  z63 := Try.sizeOf150
  v63 := Try.zeroValue150
  t64 := Try.underlying99
  a64 := Try.isAgg99
  z64 := Try.sizeOf99
  v64 := Try.zeroValue99 }

theorem sortsA (m : Nat) : AnyZI.SortsIn Try.prog sortedA_ren Fence.wide m :=
  ⟨fun blk off cap ss W hH hblk hsz => callsIn_wide.2 (AnyM.slices_Sort_int sortA blk off cap ss W hH hblk hsz),
   fun p cap W => callsIn_wide.2 (AnyM.slices_Sort_int_none sortA p cap W)⟩
section
variable {ρ : Option Nat} {N : Nat} {t : Fr} {w w0 : World} {X : Nat → Prop} {L : List Rs} {R : Value → World → Prop} {d : Option Nat} {ty : TypeId} {as_ : Array TypeId} {ps : String} {af : Array Edge} {g : Option (Nat × Bool)} {x : Operand}
theorem en_keys : En Try.prog 44 := ⟨_, _, Try.func44, by kernel_rfl, rfl⟩
theorem en_sorted : En Try.prog 43 := ⟨_, _, Try.func43, by kernel_rfl, rfl⟩
set_option maxRecDepth 100000 in
theorem keys_y {b : Nat} (H : St X w0 w L) (hx : ev t x = .map (some b)) (h : ∀ bx w', St X w0 w' (L ++ [.blk bx #[.map (some b)] 79]) → R (.func (.func 58) #[] #[.pointer (some ⟨bx, 0, none⟩)]) w') :
    Yd Try.prog ρ N ⟨d, .call ⟨.value (.func 44), #[x], as_⟩, ty, ps, af, g⟩ t w R := by
  have cK : CallsIn Fence.wide 5 Try.prog 44 #[.map (some b)] w fun e w' => e = .returned (.func (.func 58) #[] #[.pointer (some ⟨w.heap.size, 0, none⟩)]) ∧ w' = w.alloc (.cells #[.map (some b)] 79) := AnyZI.keys_in keysA Fence.wide 5 trivial rfl (some b) w
  refine y_callL en_keys (vs := [.map (some b)]) (by simp [hx]) ((callsIn_wide.1 cK).mono ?_)
  rintro e w' ⟨rfl, rfl⟩
  exact ⟨_, rfl, h _ _ (H.box _ _)⟩
set_option maxRecDepth 100000 in
set_option maxHeartbeats 1000000 in
theorem sorted_y {bx b : Nat} {l : List Int} (H : St X w0 w L) (q : Nat) (hq : L[q]? = some (.blk bx #[.map (some b)] 79)) (j : Nat) (hj : L[j]? = some (.mp Try.prog 3 b l)) (hx : ev t x = .func (.func 58) #[] #[.pointer (some ⟨bx, 0, none⟩)]) (g1 : l.length * 8 ≤ 140737488355328)
    (h : ∀ v w', St X w0 w' (L ++ [.own (.int .i64) 3 v (skeys l)]) → R v w') : Yd Try.prog ρ N ⟨d, .call ⟨.value (.func 43), #[x], as_⟩, ty, ps, af, g⟩ t w R := by
  obtain ⟨n, hm, hn⟩ := H.get j hj
  have hb := H.get q hq
  have hs := hm.size_le
  have hseq : SeqGives Fence.wide 2 Try.prog 58 #[.pointer (some ⟨bx, 0, none⟩)] encZ (fun ss => ss.Perm (intKeys (setOf (H := Unit) (.agg []) (l.map fun x => Lit.int .i64 x)))) (Maps.size (setOf (H := Unit) (.agg []) (l.map fun x => Lit.int .i64 x))) w :=
    AnyZI.keys_gives (ρ := keysA_ren) { keysA with } Fence.wide _ trivial rfl (by omega) bx b n _ _ ((Rs.blk bx _ _).bd w hb bx rfl) (blk_cell hb rfl) hm
  have cS := AnyZI.sorted_in sortedA Fence.wide 5 trivial trivial trivial trivial rfl (by omega) (sortsA _) (enters_of Try.func57 (by kernel_rfl) rfl) 58 #[.pointer (some ⟨bx, 0, none⟩)] trivial (enters_of Try.func58 (by kernel_rfl) rfl) _ _ (by unfold maxLen; omega) (by omega) _ hseq
  change CallsIn _ _ Try.prog 43 _ _ _ at cS
  refine y_callL en_sorted (vs := [.func (.func 58) #[] #[.pointer (some ⟨bx, 0, none⟩)]]) (by simp [hx]) ((callsIn_wide.1 cS).mono ?_)
  rintro e w' ⟨v, ss, rfl, hp, hrow, -, hB⟩
  have e1 := sort_skeys hp
  have hlen : ss.length = (skeys l).length := by rw [← e1, List.length_mergeSort]
  change w'.ownsRow w.heap.size 3 1 v ss.length ((ss.mergeSort leI).map encZ) at hrow
  rw [e1, hlen] at hrow
  refine ⟨v, rfl, h _ _ (H.new (Ch.of_below hB) ?_ ?_)⟩
  · show w'.ownsRow 0 _ _ _ _ _
    rw [all_int]
    exact ownsRow_base_a hrow (Nat.zero_le _)
  · intro c hc
    rcases hrow.2 with ⟨rfl, _⟩ | ⟨g, cap, cur, rfl, hg, _⟩
    · cases hc
    · cases hc; exact hg
end
end Go.Proofs.Ythfhhnlnlcbckaa.Gw
