/- The card of the law that what a desk encodes is read back from what it tells: a part of its proof. The conditions are those of the statement. -/
import Derived.Test.YtkndgkbgbmhjoaaGreatDoorQ25
import Derived.Test.YtkndgkbgbmhjoaaGreatDoorQ21
import Derived.Test.YtkndgkbgbmhjoaaGreatDoorQ23
import Derived.Test.YtkndgkbgbmhjoaaGreatDoorQ4
import Derived.Test.YtkndgkbgbmhjoaaGreatDoorQ12
import Derived.Test.YtkndgkbgbmhjoaaGreatDoorQ13
import Derived.Test.YtkndgkbgbmhjoaaGreatDoorQ14
import Derived.Test.YtkndgkbgbmhjoaaGreatDoorQ15
import Derived.Test.YtkndgkbgbmhjoaaGreatDoorQ16
import Derived.Test.YtkndgkbgbmhjoaaGreatDoorQ17
import Derived.Test.YtkndgkbgbmhjoaaGreatDoorQ18
import Derived.Test.YtkndgkbgbmhjoaaGreatDoorQ19
import Derived.Test.YtkndgkbgbmhjoaaGreatDoorQ3
import Derived.Test.YtkndgkbgbmhjoaaGreatDoorProg
namespace Go.Proofs.YtkndgkbgbmhjoaaGreatDoor.Gw
open Go Go.RowKit
set_option linter.unusedVariables false
set_option linter.unusedSimpArgs false
set_option linter.unusedSectionVars false
variable [LibO]
set_option linter.unnecessarySimpa false
set_option maxRecDepth 100000
set_option maxHeartbeats 4000000
open Go.IntKind (i8 i16 i32 i64 u8 u16 u32 u64)
def play_Run.j0 (l0r : List (ByteArray) → List Int → ByteArray → Int → Int → Int → Int → Int → Int → Option (ByteArray)) (k : Nat) (l19 : List (ByteArray)) : Option (ByteArray):=l0r l19 (List.replicate 16 (0 : Int)) ByteArray.empty 7 3 0 0 0 0
def play_Run.j1 (l0r : List (ByteArray) → List Int → ByteArray → Int → Int → Int → Int → Int → Int → Option (ByteArray)) (k : Nat) (l19 : List (ByteArray)) (l276 : List Int) (l278 : ByteArray) (x282 : Int) (x283 : Int) (x284 : Int) (x569 : Int) (x570 : Int) (x571 : Int) (x572 : ByteArray) : Option (ByteArray):=grd (decide ((x572.size + r_str14.size : Nat) ≤ 140737488355328)) (grd (decide (l278.size + (cat x572 r_str14).size ≤ 140737488355328)) (l0r l19 l276 (cat l278 (cat x572 r_str14)) x569 x570 x571 x282 x283 (i64.wrap (x284 + 1))))
def play_Run.j2 (l0r : List (ByteArray) → List Int → ByteArray → Int → Int → Int → Int → Int → Int → Option (ByteArray)) (k : Nat) (l19 : List (ByteArray)) (l276 : List Int) (l278 : ByteArray) (x279 : Int) (x280 : Int) (x281 : Int) (x284 : Int) (x623 : Int) (x624 : Int) (x625 : ByteArray) : Option (ByteArray):=grd (decide ((x625.size + r_str14.size : Nat) ≤ 140737488355328)) (grd (decide (l278.size + (cat x625 r_str14).size ≤ 140737488355328)) (l0r l19 l276 (cat l278 (cat x625 r_str14)) x279 x280 x281 x623 x624 (i64.wrap (x284 + 1))))
def play_Run.j3 (l0r : List (ByteArray) → List Int → ByteArray → Int → Int → Int → Int → Int → Int → Option (ByteArray)) (k : Nat) (l19 : List (ByteArray)) (l278 : ByteArray) (x279 : Int) (x280 : Int) (x281 : Int) (x282 : Int) (x283 : Int) (x284 : Int) (l680 : List Int) (x681 : ByteArray) : Option (ByteArray):=grd (decide ((x681.size + r_str14.size : Nat) ≤ 140737488355328)) (grd (decide (l278.size + (cat x681 r_str14).size ≤ 140737488355328)) (l0r l19 l680 (cat l278 (cat x681 r_str14)) x279 x280 x281 x282 x283 (i64.wrap (x284 + 1))))
def play_Run.j4 (l0r : List (ByteArray) → List Int → ByteArray → Int → Int → Int → Int → Int → Int → Option (ByteArray)) (k : Nat) (l19 : List (ByteArray)) (l278 : ByteArray) (x279 : Int) (x280 : Int) (x281 : Int) (x282 : Int) (x283 : Int) (x284 : Int) (l794 : List Int) (x795 : ByteArray) : Option (ByteArray):=grd (decide ((x795.size + r_str14.size : Nat) ≤ 140737488355328)) (grd (decide (l278.size + (cat x795 r_str14).size ≤ 140737488355328)) (l0r l19 l794 (cat l278 (cat x795 r_str14)) x279 x280 x281 x282 x283 (i64.wrap (x284 + 1))))
def play_Run.l0 : Nat → List (ByteArray) → List Int → ByteArray → Int → Int → Int → Int → Int → Int → Option (ByteArray)
 | 0,_,_,_,_,_,_,_,_,_=>none
 | k + 1,l19,l276,l278,x279,x280,x281,x282,x283,x284=>bif decide (x284 < (l19.length : Int)) then (grd (decide ((0 : Int) ≤ x284 ∧ x284 < (l19.length : Int))) ((strings_Split.f (at_ ByteArray.empty l19 x284) r_str15).bind fun x535=>grd (decide ((0 : Int) ≤ 0 ∧ 0 < (x535.length : Int))) (bif decide ((at_ ByteArray.empty x535 0) = r_str4) then (grd (decide ((0 : Int) ≤ 1 ∧ 1 ≤ (x535.length : Int))) ((play_numbers.f k ((x535.take x535.length).drop ((1 : Int).toNat))).bind fun x575=>bif !x575.2 then (play_Run.j1 (play_Run.l0 k) k l19 l276 l278 x282 x283 x284 x279 x280 x281 r_str16) else (bif !decide ((x575.1.length : Int) = 3) then (play_Run.j1 (play_Run.l0 k) k l19 l276 l278 x282 x283 x284 x279 x280 x281 r_str16) else (grd (decide ((0 : Int) ≤ 0 ∧ 0 < (x575.1.length : Int))) (grd (decide ((0 : Int) ≤ 1 ∧ 1 < (x575.1.length : Int))) (grd (decide ((0 : Int) ≤ 2 ∧ 2 < (x575.1.length : Int))) ((code_Right.f (at_ 0 x575.1 0,at_ 0 x575.1 1,at_ 0 x575.1 2)).bind fun x589=>bif !decide (x589 = 0) then ((play_fail.f x589).bind fun x592=>play_Run.j1 (play_Run.l0 k) k l19 l276 l278 x282 x283 x284 x279 x280 x281 x592) else (play_Run.j1 (play_Run.l0 k) k l19 l276 l278 x282 x283 x284 (at_ 0 x575.1 0) (at_ 0 x575.1 1) (at_ 0 x575.1 2) r_str17)))))))) else (bif decide ((at_ ByteArray.empty x535 0) = r_str5) then (grd (decide ((0 : Int) ≤ 1 ∧ 1 ≤ (x535.length : Int))) ((play_numbers.f k ((x535.take x535.length).drop ((1 : Int).toNat))).bind fun x628=>bif !x628.2 then (play_Run.j2 (play_Run.l0 k) k l19 l276 l278 x279 x280 x281 x284 x282 x283 r_str16) else (bif !decide ((x628.1.length : Int) = 2) then (play_Run.j2 (play_Run.l0 k) k l19 l276 l278 x279 x280 x281 x284 x282 x283 r_str16) else (grd (decide ((0 : Int) ≤ 0 ∧ 0 < (x628.1.length : Int))) (grd (decide ((0 : Int) ≤ 1 ∧ 1 < (x628.1.length : Int))) ((pick_Right.f (at_ 0 x628.1 0,at_ 0 x628.1 1)).bind fun x640=>bif !decide (x640 = 0) then ((play_fail.f x640).bind fun x643=>play_Run.j2 (play_Run.l0 k) k l19 l276 l278 x279 x280 x281 x284 x282 x283 x643) else (play_Run.j2 (play_Run.l0 k) k l19 l276 l278 x279 x280 x281 x284 (at_ 0 x628.1 0) (at_ 0 x628.1 1) r_str17))))))) else (bif decide ((at_ ByteArray.empty x535 0) = r_str6) then (grd (decide ((0 : Int) ≤ 1 ∧ 1 ≤ (x535.length : Int))) (bif !decide ((((x535.take x535.length).drop ((1 : Int).toNat)).length : Int) = 1) then (play_Run.j3 (play_Run.l0 k) k l19 l278 x279 x280 x281 x282 x283 x284 l276 r_str16) else (grd (decide ((0 : Int) ≤ 0 ∧ 0 < (((x535.take x535.length).drop ((1 : Int).toNat)).length : Int))) ((play_unhex.f k (at_ ByteArray.empty ((x535.take x535.length).drop ((1 : Int).toNat)) 0)).bind fun x688=>bif !x688.2 then (play_Run.j3 (play_Run.l0 k) k l19 l278 x279 x280 x281 x282 x283 x284 l276 r_str16) else ((codec_Desk_Encode.f k l276 (x279,x280,x281) (x282,x283) x688.1).bind fun x697=>bif !decide (x697.1.2 = 0) then ((play_fail.f x697.1.2).bind fun x702=>play_Run.j3 (play_Run.l0 k) k l19 l278 x279 x280 x281 x282 x283 x284 x697.2 x702) else ((play_hex.f k x697.1.1).bind fun x704=>play_Run.j3 (play_Run.l0 k) k l19 l278 x279 x280 x281 x282 x283 x284 x697.2 x704)))))) else (bif decide ((at_ ByteArray.empty x535 0) = r_str7) then (grd (decide ((0 : Int) ≤ 1 ∧ 1 ≤ (x535.length : Int))) (bif decide ((((x535.take x535.length).drop ((1 : Int).toNat)).length : Int) = 0) then (play_Run.j4 (play_Run.l0 k) k l19 l278 x279 x280 x281 x282 x283 x284 l276 r_str16) else (grd (decide ((0 : Int) ≤ 0 ∧ 0 < (((x535.take x535.length).drop ((1 : Int).toNat)).length : Int))) ((play_unhex.f k (at_ ByteArray.empty ((x535.take x535.length).drop ((1 : Int).toNat)) 0)).bind fun x802=>grd (decide ((0 : Int) ≤ 1 ∧ 1 ≤ (((x535.take x535.length).drop ((1 : Int).toNat)).length : Int))) ((play_numbers.f k ((((x535.take x535.length).drop ((1 : Int).toNat)).take (((x535.take x535.length).drop ((1 : Int).toNat)).length)).drop ((1 : Int).toNat))).bind fun x810=>bif !x802.2 then (play_Run.j4 (play_Run.l0 k) k l19 l278 x279 x280 x281 x282 x283 x284 l276 r_str16) else (bif !x810.2 then (play_Run.j4 (play_Run.l0 k) k l19 l278 x279 x280 x281 x282 x283 x284 l276 r_str16) else ((codec_Desk_Decode.f k l276 (x279,x280,x281) (x282,x283) x802.1 x810.1).bind fun x833=>bif !decide (x833.1.2 = 0) then ((play_fail.f x833.1.2).bind fun x853=>play_Run.j4 (play_Run.l0 k) k l19 l278 x279 x280 x281 x282 x283 x284 x833.2 x853) else ((play_hex.f k x833.1.1.2.1).bind fun x864=>(play_hex.f k x833.1.1.1).bind fun x866=>(play_list.f k x833.1.1.2.2 r_str18).bind fun x868=>(play_said.f ([x864,x866,x868])).bind fun x871=>play_Run.j4 (play_Run.l0 k) k l19 l278 x279 x280 x281 x282 x283 x284 x833.2 x871)))))))) else (bif decide ((at_ ByteArray.empty x535 0) = r_str8) then (none) else (bif decide ((at_ ByteArray.empty x535 0) = r_str9) then (none) else (bif decide ((at_ ByteArray.empty x535 0) = r_str10) then (none) else (bif decide ((at_ ByteArray.empty x535 0) = r_str11) then (none) else (bif decide ((at_ ByteArray.empty x535 0) = r_str12) then (none) else (bif decide ((at_ ByteArray.empty x535 0) = r_str13) then (none) else (grd (decide ((r_str16.size + r_str14.size : Nat) ≤ 140737488355328)) (grd (decide (l278.size + (cat r_str16 r_str14).size ≤ 140737488355328)) (play_Run.l0 k l19 l276 (cat l278 (cat r_str16 r_str14)) x279 x280 x281 x282 x283 (i64.wrap (x284 + 1))))))))))))))))) else (some l278)
def play_Run.f (k : Nat) (a0 : ByteArray) : Option (ByteArray):=(strings_Split.f a0 r_str14).bind fun x5=>grd (decide ((0 : Int) ≤ i64.wrap ((x5.length : Int) - 1) ∧ i64.wrap ((x5.length : Int) - 1) < (x5.length : Int))) (bif decide ((at_ ByteArray.empty x5 (i64.wrap ((x5.length : Int) - 1))) = r_str1) then (grd (decide ((0 : Int) ≤ i64.wrap ((x5.length : Int) - 1) ∧ i64.wrap ((x5.length : Int) - 1) ≤ (x5.length : Int) ∧ (x5.length : Int) ≤ x5.length ∧ 0 < x5.length)) (play_Run.j0 (play_Run.l0 k) k (x5.take (i64.wrap ((x5.length : Int) - 1)).toNat ++ x5.drop (x5.length : Int).toNat))) else (play_Run.j0 (play_Run.l0 k) k x5))
theorem play_Run.calls {w0 : World} {k : Nat} {a0 : ByteArray} {r : ByteArray} (hf : (Rs.env ).inv w0) (E : play_Run.f k a0 = some r) :
   Calls Tryz.prog 9 #[.string a0] w0 fun e w'=>e = .returned (.string r) ∧ St (Rs.env ).fp w0 w' [.gt,.lv]:=by
 have H:=env_open hf
 unfold play_Run.f at E
 refine calls_of_wc (N:=78) (args:=[.string a0]) Tryz.func9 z z (by simp) ?_
 refine rg (v_ z (sg (.string r_str1) z) (nl (rg (e_ z (y_in 3 [] r_en_17 Tryz.func17 z z z z (rg (v_ z (sg (.pointer none) z) (nl (rg (v_ z (r_build (cs:=[.int .u32 0,.int .i32 0,.int .u32 0,.int .i32 0,.pointer none,.int .u32 0,.int .i32 0,.int .u32 0,.int .i32 0,.pointer none,.int .u32 0,.int .i32 0,.int .u32 0,.int .i32 0,.pointer none,.int .u32 0,.int .i32 0,.int .u32 0,.int .i32 0,.pointer none,.int .i64 0,.int .i64 0,.int .i64 0,.int .i64 0,.int .i64 0,.int .i64 0,.int .i64 0,.int .i64 0,.int .i64 0,.int .i64 0,.int .i64 0,.int .i64 0,.int .i64 0,.int .i64 0,.int .i64 0,.int .i64 0]) r_bd_89 z) (e_ z (y_boxD (cs:=[.int .u32 0,.int .i32 0,.int .u32 0,.int .i32 0,.pointer none,.int .u32 0,.int .i32 0,.int .u32 0,.int .i32 0,.pointer none,.int .u32 0,.int .i32 0,.int .u32 0,.int .i32 0,.pointer none,.int .u32 0,.int .i32 0,.int .u32 0,.int .i32 0,.pointer none,.int .i64 0,.int .i64 0,.int .i64 0,.int .i64 0,.int .i64 0,.int .i64 0,.int .i64 0,.int .i64 0,.int .i64 0,.int .i64 0,.int .i64 0,.int .i64 0,.int .i64 0,.int .i64 0,.int .i64 0,.int .i64 0]) H 0 z z z (fun b2 w H=>(v_ z (sg (pt b2) z) (nl (wc_ret (⟨.inl z,pt b2,tk0 z ⟨resM z (rv_t rv_nil) z,(v_ z (r_build (cs:=[.int .i64 7,.int .i64 3,.int .i64 0]) r_bd_24 z) (v_ z (r_build (cs:=[pt b2,.int .i64 7,.int .i64 3,.int .i64 0,.int .i64 0,.int .i64 0,.slice none 0 0,.slice none 0 0]) r_bd_47 (by kernel_rfl)) (e_ z (y_boxS (cs:=#[pt b2,.int .i64 7,.int .i64 3,.int .i64 0,.int .i64 0,.int .i64 0,.slice none 0 0,.slice none 0 0]) H z (fun b3 w H=>(v_ z (sg (pt b3) z) (nl (rg (e_ z (y_mkMf H (fun b4 w H=>(v_ z (mv (pt b3) z) (v_ z (r_mkF [pt b3] [] z z) (s_ (y_insS (v:=.func (.func 18) #[pt b3] #[]) Tryz.underlying9 Tryz.underlying49 H 3 z z z z (by kernel_rfl) (fun w H=>(v_ z (mv (pt b3) z) (v_ z (r_mkF [pt b3] [] z z) (s_ (y_insS (v:=.func (.func 19) #[pt b3] #[]) Tryz.underlying9 Tryz.underlying49 H 3 z z z z (by kernel_rfl) (fun w H=>?_)))))))))))))))))))))⟩⟩)))))))))))))))))
 have H : St (Rs.env ).fp w0 _ [.gd b2 ⟨none,none⟩ (List.replicate 16 (0 : Int)),.lv,.blk b3 #[pt b2,.int .i64 7,.int .i64 3,.int .i64 0,.int .i64 0,.int .i64 0,.slice none 0 0,.slice none 0 0] 47,.mf b4 [(.string r_str4,.func (.func 18) #[pt b3] #[]),(.string r_str5,.func (.func 19) #[pt b3] #[])]]:=H
 refine v_ z (mv (pt b3) z) (v_ z (r_mkF [pt b3] [] z z) (s_ (y_insS (v:=.func (.func 20) #[pt b3] #[]) Tryz.underlying9 Tryz.underlying49 H 3 z z z z (by kernel_rfl) (fun w H=>(v_ z (mv (pt b3) z) (v_ z (r_mkF [pt b3] [] z z) (s_ (y_insS (v:=.func (.func 21) #[pt b3] #[]) Tryz.underlying9 Tryz.underlying49 H 3 z z z z (by kernel_rfl) (fun w H=>(v_ z (mv (pt b3) z) (v_ z (r_mkF [pt b3] [] z z) (s_ (y_insS (v:=.func (.func 22) #[pt b3] #[]) Tryz.underlying9 Tryz.underlying49 H 3 z z z z (by kernel_rfl) (fun w H=>(v_ z (mv (pt b3) z) (v_ z (r_mkF [pt b3] [] z z) (s_ (y_insS (v:=.func (.func 23) #[pt b3] #[]) Tryz.underlying9 Tryz.underlying49 H 3 z z z z (by kernel_rfl) (fun w H=>(v_ z (mv (pt b3) z) (v_ z (r_mkF [pt b3] [] z z) (s_ (y_insS (v:=.func (.func 24) #[pt b3] #[]) Tryz.underlying9 Tryz.underlying49 H 3 z z z z (by kernel_rfl) (fun w H=>?_))))))))))))))))))))))))
 have H : St (Rs.env ).fp w0 _ [.gd b2 ⟨none,none⟩ (List.replicate 16 (0 : Int)),.lv,.blk b3 #[pt b2,.int .i64 7,.int .i64 3,.int .i64 0,.int .i64 0,.int .i64 0,.slice none 0 0,.slice none 0 0] 47,.mf b4 [(.string r_str4,.func (.func 18) #[pt b3] #[]),(.string r_str5,.func (.func 19) #[pt b3] #[]),(.string r_str6,.func (.func 20) #[pt b3] #[]),(.string r_str7,.func (.func 21) #[pt b3] #[]),(.string r_str8,.func (.func 22) #[pt b3] #[]),(.string r_str9,.func (.func 23) #[pt b3] #[]),(.string r_str10,.func (.func 24) #[pt b3] #[])]]:=H
 refine v_ z (mv (pt b3) z) (v_ z (r_mkF [pt b3] [] z z) (s_ (y_insS (v:=.func (.func 25) #[pt b3] #[]) Tryz.underlying9 Tryz.underlying49 H 3 z z z z (by kernel_rfl) (fun w H=>(v_ z (mv (pt b3) z) (v_ z (r_mkF [pt b3] [] z z) (s_ (y_insS (v:=.func (.func 26) #[pt b3] #[]) Tryz.underlying9 Tryz.underlying49 H 3 z z z z (by kernel_rfl) (fun w H=>(v_ z (mv (pt b3) z) (v_ z (r_mkF [pt b3] [] z z) (s_ (y_insS (v:=.func (.func 27) #[pt b3] #[]) Tryz.underlying9 Tryz.underlying49 H 3 z z z z (by kernel_rfl) (fun w H=>(v_ z (mv (.map (some b4)) z) (v_ z (sg (.map (some b4)) z) (nl (rg (v_ z (mv (.string a0) z) ?_)))))))))))))))))))
 obtain ⟨x5,E6,E⟩:=bind_some E
 refine e_ z (y_callL r_en_28 z ((strings_Split.calls (H.get 1 z) E6).mono ?_))
 rintro _ w ⟨v7,rfl,K⟩
 have H:=H.appX 1 z K
 refine ⟨_,z,(v_ z (sg v7 z) (nl ?_))⟩
 refine wc_seqJ (fun t w=>∃ (k21 : Nat) (l19 : List (ByteArray)) (v18 : Value) (t20 : Fr),k21 ≤ k ∧ play_Run.j0 (play_Run.l0 k21) k21 l19 = some r ∧ t = upds t20 [(2,.string r_str1),(4,.map (some b4)),(5,v18),(1000000,undef)] ∧ St (Rs.env ).fp w0 w [.gd b2 ⟨none,none⟩ (List.replicate 16 (0 : Int)),.lv,.blk b3 #[pt b2,.int .i64 7,.int .i64 3,.int .i64 0,.int .i64 0,.int .i64 0,.slice none 0 0,.slice none 0 0] 47,.mf b4 [(.string r_str4,.func (.func 18) #[pt b3] #[]),(.string r_str5,.func (.func 19) #[pt b3] #[]),(.string r_str6,.func (.func 20) #[pt b3] #[]),(.string r_str7,.func (.func 21) #[pt b3] #[]),(.string r_str8,.func (.func 22) #[pt b3] #[]),(.string r_str9,.func (.func 23) #[pt b3] #[]),(.string r_str10,.func (.func 24) #[pt b3] #[]),(.string r_str11,.func (.func 25) #[pt b3] #[]),(.string r_str12,.func (.func 26) #[pt b3] #[]),(.string r_str13,.func (.func 27) #[pt b3] #[])],.own .str 9 v18 l19]) ?_ ?_
 · refine rg (v_ z (mv v7 z) (v_ z (mv v7 z) (v_ z (r_lenR r_ul_50 (own_rd (H.get 4 z)) z) (v_ z (r_sub z z) ?_))))
   obtain ⟨⟨g23,g24⟩,E⟩:=grd_some E
   refine v_ z (r_idx r_sl_50 (own_rd (H.get 4 z)) z z g23 g24) (v_ z (r_ldE (e:=.str) (j:=0) r_sc_9 (own_rd (H.get 4 z)) (at_get ByteArray.empty g23 g24) z z) (v_ z (r_seql z z) (nl ?_)))
   refine wc_cond z (fun c25=>?_) (fun c25=>?_)
   · have E:=iT c25 E
     refine wc_region (v_ z (mv v7 z) (v_ z (mv v7 z) (v_ z (r_lenR r_ul_50 (own_rd (H.get 4 z)) z) (v_ z (r_sub z z) (v_ z (mv v7 z) (v_ z (r_lenR r_ul_50 (own_rd (H.get 4 z)) z) ?_))))))
     obtain ⟨⟨g27,g28,g29,g30⟩,E⟩:=grd_some E
     refine e_ z (y_del H 4 z r_en_29 z z z g27 g28 g29 g30 (fun v26 w H=>?_))
     have H : St (Rs.env ).fp w0 _ [.gd b2 ⟨none,none⟩ (List.replicate 16 (0 : Int)),.lv,.blk b3 #[pt b2,.int .i64 7,.int .i64 3,.int .i64 0,.int .i64 0,.int .i64 0,.slice none 0 0,.slice none 0 0] 47,.mf b4 [(.string r_str4,.func (.func 18) #[pt b3] #[]),(.string r_str5,.func (.func 19) #[pt b3] #[]),(.string r_str6,.func (.func 20) #[pt b3] #[]),(.string r_str7,.func (.func 21) #[pt b3] #[]),(.string r_str8,.func (.func 22) #[pt b3] #[]),(.string r_str9,.func (.func 23) #[pt b3] #[]),(.string r_str10,.func (.func 24) #[pt b3] #[]),(.string r_str11,.func (.func 25) #[pt b3] #[]),(.string r_str12,.func (.func 26) #[pt b3] #[]),(.string r_str13,.func (.func 27) #[pt b3] #[])],.own .str 9 v26 (x5.take (i64.wrap ((x5.length : Int) - 1)).toNat ++ x5.drop (x5.length : Int).toNat)]:=H
     refine v_ z (sg v26 z) (wl_nil ?_)
     exact ⟨k,_,_,_,Nat.le_refl _,E,upds_eq ⟨z,z,z,z,trivial⟩,H⟩
   · have E:=iF c25 E
     refine wc_skip ?_
     exact ⟨k,_,_,_,Nat.le_refl _,E,upds_eq ⟨z,z,z,z,trivial⟩,H⟩
 rintro t w ⟨k21,l19,v18,t20,hk22,E,rfl,H⟩
 unfold play_Run.j0 at E
 refine rg (e_ z (y_bnew r_zr_55 H (fun b31 w H=>(nl (wc_seq (rg (v_ z (mv v18 z) (v_ z (r_lenR r_ul_50 (own_rd (H.get 4 z)) z) (v_ z (mv (.int .i64 0) z) (nl (wc_block ?_)))))))))))
 refine wc_loop (fun kk t w=>∃ (l276 : List Int) (l278 : ByteArray) (x279 : Int) (x280 : Int) (x281 : Int) (x282 : Int) (x283 : Int) (x284 : Int) (m275 : DS) (v277 : Value) (t530 : Fr),kk ≤ k21 ∧ play_Run.l0 kk l19 l276 l278 x279 x280 x281 x282 x283 x284 = some r ∧ t = upds t530 [(2,.string r_str1),(4,.map (some b4)),(6,pt b31),(54,v18),(55,.int .i64 (l19.length : Int)),(56,.int .i64 x284),(1000000,undef)] ∧ St (Rs.env ).fp w0 w [.gd b2 m275 l276,.lv,.blk b3 #[pt b2,.int .i64 x279,.int .i64 x280,.int .i64 x281,.int .i64 x282,.int .i64 x283,.slice none 0 0,.slice none 0 0] 47,.mf b4 [(.string r_str4,.func (.func 18) #[pt b3] #[]),(.string r_str5,.func (.func 19) #[pt b3] #[]),(.string r_str6,.func (.func 20) #[pt b3] #[]),(.string r_str7,.func (.func 21) #[pt b3] #[]),(.string r_str8,.func (.func 22) #[pt b3] #[]),(.string r_str9,.func (.func 23) #[pt b3] #[]),(.string r_str10,.func (.func 24) #[pt b3] #[]),(.string r_str11,.func (.func 25) #[pt b3] #[]),(.string r_str12,.func (.func 26) #[pt b3] #[]),(.string r_str13,.func (.func 27) #[pt b3] #[])],.own .str 9 v18 l19,.bld b31 v277 (sb l278)]) k21 ?_ ?_
 · exact ⟨_,_,_,_,_,_,_,_,_,_,_,Nat.le_refl _,E,upds_eq ⟨z,z,z,z,z,z,z,trivial⟩,H⟩
 rintro kk t w ⟨l276,l278,x279,x280,x281,x282,x283,x284,m275,v277,t530,hk529,E,rfl,H⟩
 obtain ⟨k528,rfl⟩ | rfl : (∃ k',kk = k' + 1) ∨ kk = 0:=by cases kk; exact .inr rfl; exact .inl ⟨_,rfl⟩
 rotate_left
 · cases E
 rw [play_Run.l0] at E
 refine rg (v_ z (r_lss z z) (nl (wc_seq ?_)))
 refine wc_cond z (fun c532=>?_) (fun c532=>?_)
 · have E:=iT c532 E
   refine wc_skip (n_thn (wc_seq (wc_block (rg ?_))))
   obtain ⟨⟨g533,g534⟩,E⟩:=grd_some E
   refine v_ z (r_idx r_sl_50 (own_rd (H.get 4 z)) z z g533 g534) (v_ z (r_ldE (e:=.str) (j:=0) r_sc_9 (own_rd (H.get 4 z)) (at_get ByteArray.empty g533 g534) z z) (v_ z (sg (.string (at_ ByteArray.empty l19 x284)) z) (nl (rg (v_ z (mv (.string (at_ ByteArray.empty l19 x284)) z) ?_)))))
   obtain ⟨x535,E536,E⟩:=bind_some E
   refine e_ z (y_callL r_en_28 z ((strings_Split.calls (H.get 1 z) E536).mono ?_))
   rintro _ w ⟨v537,rfl,K⟩
   have H:=H.appX 1 z K
   refine ⟨_,z,(v_ z (sg v537 z) (nl (rg (v_ z (sg (.string r_str16) z) (nl (wc_seq (rg (v_ z (mv (.map (some b4)) z) (v_ z (mv v537 z) ?_)))))))))⟩
   obtain ⟨⟨g538,g539⟩,E⟩:=grd_some E
   refine v_ z (r_idx r_sl_50 (own_rd (H.get 6 z)) z z g538 g539) (v_ z (r_ldE (e:=.str) (j:=0) r_sc_9 (own_rd (H.get 6 z)) (at_get ByteArray.empty g538 g539) z z) ?_)
   rcases Bool.eq_false_or_eq_true (decide ((at_ ByteArray.empty x535 0) = r_str4)) with c540 | c540
   · have E:=iT c540 E
     refine v_ z (r_lkS Tryz.underlying9 Tryz.underlying49 r_zf_48 (H.get 3 z) z z z (by simp only [List.nil_append,List.cons_append,lkS,c540,cond_true,cond_false])) (v_ z (sg (.func (.func 18) #[pt b3] #[]) z) (nl (rg (v_ z (mv (.func (.func 18) #[pt b3] #[]) z) (v_ z (r_fneq1 Tryz.underlying48 z z z) (nl (wc_condT z (wc_region (v_ z (mv (.func (.func 18) #[pt b3] #[]) z) (v_ z (mv v537 z) ?_))))))))))
     obtain ⟨⟨g541,g542⟩,E⟩:=grd_some E
     have p544 : (1 : Int).toNat ≤ x535.length:=by omega
     have p545 : x535.length ≤ x535.length:=by omega
     refine v_ z (r_slcLR r_sl_50 (own_rd (H.get 6 z)) z z g541 g542) ?_
     refine e_ z (y_J (fun v w=>∃ (k573 : Nat) (x569 : Int) (x570 : Int) (x571 : Int) (x572 : ByteArray),k573 ≤ k528 ∧ play_Run.j1 (play_Run.l0 k573) k573 l19 l276 l278 x282 x283 x284 x569 x570 x571 x572 = some r ∧ v = .string x572 ∧ St (Rs.env ).fp w0 w [.gd b2 m275 l276,.lv,.blk b3 #[pt b2,.int .i64 x569,.int .i64 x570,.int .i64 x571,.int .i64 x282,.int .i64 x283,.slice none 0 0,.slice none 0 0] 47,.mf b4 [(.string r_str4,.func (.func 18) #[pt b3] #[]),(.string r_str5,.func (.func 19) #[pt b3] #[]),(.string r_str6,.func (.func 20) #[pt b3] #[]),(.string r_str7,.func (.func 21) #[pt b3] #[]),(.string r_str8,.func (.func 22) #[pt b3] #[]),(.string r_str9,.func (.func 23) #[pt b3] #[]),(.string r_str10,.func (.func 24) #[pt b3] #[]),(.string r_str11,.func (.func 25) #[pt b3] #[]),(.string r_str12,.func (.func 26) #[pt b3] #[]),(.string r_str13,.func (.func 27) #[pt b3] #[])],.own .str 9 v18 l19,.bld b31 v277 (sb l278),.own .str 9 v537 x535]) ?_ ?_)
     · refine (y_inF 41 [pt b3,(slv v537 ((1 : Int).toNat) x535.length 1)] z r_en_18 Tryz.func18 z z z z (rg (v_ z (sg (.string r_str1) z) (nl (rg (v_ z (mv ((slv v537 ((1 : Int).toNat) x535.length 1)) z) ?_))))))
       obtain ⟨x575,E576,E⟩:=bind_some E
       refine e_ z (y_callL r_en_37 z ((play_numbers.calls (H.get 1 z) (H.ownX 6 1 z z z (Rd.slv (own_rd (H.get 6 z)) p544 p545)) E576).mono ?_))
       rintro _ w ⟨v577,rfl,K⟩
       have H:=H.appX 1 z K
       refine ⟨_,z,(v_ z (r_move) (v_ z (r_extract z z) (v_ z (r_extract z z) (v_ z (sg v577 z) (v_ z (sg (.bool x575.2) z) (nl (wc_seq (rg (v_ z (mv (.bool x575.2) z) (v_ z (r_not z) (v_ z (mv (.bool (!x575.2)) z) ?_)))))))))))⟩
       rcases Bool.eq_false_or_eq_true (!x575.2) with c580 | c580
       · have E:=iT c580 E
         refine off_ c580 z z z (off_ c580 z z z (off_ c580 z z z (v_ z (pT (.bool true) z z c580) (nl (wc_condT z (rg (v_ z (sg (.string r_str16) z) (nl (wc_ret ?_)))))))))
         exact (r_thn ⟨.inl z,.string r_str16,tk0 z ⟨resM z (rv_t rv_nil) z,k528,_,_,_,_,Nat.le_refl _,E,z,H.sel [0,1,2,3,4,5,6] z z⟩⟩)
       · have E:=iF c580 E
         refine on_ c580 z z (mv v577 z) (on_ c580 z z (r_lenR e_ul_45 (own_rd (H.get 7 z)) z) (on_ c580 z z (r_neq z z) (v_ z (pF (.bool (!decide ((x575.1.length : Int) = 3))) z z c580) (nl ?_))))
         refine wc_cond z (fun c581=>?_) (fun c581=>?_)
         · have E:=iT c581 E
           refine rg (v_ z (sg (.string r_str16) z) (nl (wc_ret ?_)))
           exact (r_thn ⟨.inl z,.string r_str16,tk0 z ⟨resM z (rv_t rv_nil) z,k528,_,_,_,_,Nat.le_refl _,E,z,H.sel [0,1,2,3,4,5,6] z z⟩⟩)
         · have E:=iF c581 E
           refine wc_skip (n_thn (wc_seq (wc_drawnS (ds:=[]) e_mo H z z ?_)))
           have H:=H.drew
           refine wt 0 (tf 1 12) z z z (by kernel_rfl) H (fun w H=>(mv v577 z)) ?_
           obtain ⟨⟨g582,g583⟩,E⟩:=grd_some E
           refine wt 1 (tf 2 12) z z z (by kernel_rfl) H (fun w H=>(r_idx e_sl_45 (own_rd (H.get 7 z)) z z g582 g583)) (wt 2 (tf 3 12) z z z (by kernel_rfl) H (fun w H=>(r_ldI e_sc_3 (own_rd (H.get 7 z)) g582 g583 z)) (wt 3 (tf 4 12) z z z (by kernel_rfl) H (fun w H=>(mv v577 z)) ?_))
           obtain ⟨⟨g584,g585⟩,E⟩:=grd_some E
           refine wt 4 (tf 5 12) z z z (by kernel_rfl) H (fun w H=>(r_idx e_sl_45 (own_rd (H.get 7 z)) z z g584 g585)) (wt 5 (tf 6 12) z z z (by kernel_rfl) H (fun w H=>(r_ldI e_sc_3 (own_rd (H.get 7 z)) g584 g585 z)) (wt 6 (tf 7 12) z z z (by kernel_rfl) H (fun w H=>(mv v577 z)) ?_))
           obtain ⟨⟨g586,g587⟩,E⟩:=grd_some E
           refine wt 7 (tf 8 12) z z z (by kernel_rfl) H (fun w H=>(r_idx e_sl_45 (own_rd (H.get 7 z)) z z g586 g587)) (wt 8 (tf 9 12) z z z (by kernel_rfl) H (fun w H=>(r_ldI e_sc_3 (own_rd (H.get 7 z)) g586 g587 z)) (wt 9 (tf 10 12) z z z (by kernel_rfl) H (fun w H=>(r_build (cs:=[.int .i64 (at_ 0 x575.1 0),.int .i64 (at_ 0 x575.1 1),.int .i64 (at_ 0 x575.1 2)]) r_bd_24 z)) (wa_one (i:=10) (l':=(tf 11 12)) z z z (by kernel_rfl) (y_allocS r_zr_24 H (fun b588 w H=>⟨fun _=>H.sel [0,1,2,3,4,5,6,7] z z,(wa_one (i:=11) (l':=(tf 12 12)) z z z (by kernel_rfl) (y_storeBA r_sz_24 H 8 z z z z z z (fun w H=>⟨fun _=>H.sel [0,1,2,3,4,5,6,7] z z,(wa_done (by kernel_rfl) (n_thn (wc_seq (rg (v_ z (r_loadB (l:=[.int .i64 (at_ 0 x575.1 0),.int .i64 (at_ 0 x575.1 1),.int .i64 (at_ 0 x575.1 2)]) e_ag_24 (H.get 8 z) z z z) ?_)))))⟩)))⟩)))))
           obtain ⟨x589,E590,E⟩:=bind_some E
           refine e_ z (y_callL r_en_38 z ((code_Right.calls E590).mono ?_))
           rintro _ w ⟨rfl,K⟩
           have H:=H.app K
           refine ⟨_,z,?_⟩
           have H : St (Rs.env ).fp w0 _ [.gd b2 m275 l276,.lv,.blk b3 #[pt b2,.int .i64 x279,.int .i64 x280,.int .i64 x281,.int .i64 x282,.int .i64 x283,.slice none 0 0,.slice none 0 0] 47,.mf b4 [(.string r_str4,.func (.func 18) #[pt b3] #[]),(.string r_str5,.func (.func 19) #[pt b3] #[]),(.string r_str6,.func (.func 20) #[pt b3] #[]),(.string r_str7,.func (.func 21) #[pt b3] #[]),(.string r_str8,.func (.func 22) #[pt b3] #[]),(.string r_str9,.func (.func 23) #[pt b3] #[]),(.string r_str10,.func (.func 24) #[pt b3] #[]),(.string r_str11,.func (.func 25) #[pt b3] #[]),(.string r_str12,.func (.func 26) #[pt b3] #[]),(.string r_str13,.func (.func 27) #[pt b3] #[])],.own .str 9 v18 l19,.bld b31 v277 (sb l278),.own .str 9 v537 x535,.own (.int .i64) 3 v577 x575.1,.blk b588 #[.int .i64 (at_ 0 x575.1 0),.int .i64 (at_ 0 x575.1 1),.int .i64 (at_ 0 x575.1 2)] 24]:=H
           refine v_ z (sg (.int .u16 x589) z) (nl (rg (v_ z (mv (.int .u16 x589) z) (v_ z (r_neq z z) (nl ?_)))))
           refine wc_cond z (fun c591=>?_) (fun c591=>?_)
           · have E:=iT c591 E
             refine rg (v_ z (mv (.int .u16 x589) z) ?_)
             obtain ⟨x592,E593,E⟩:=bind_some E
             refine e_ z (y_callL r_en_39 z ((play_fail.calls (H.get 1 z) E593).mono ?_))
             rintro _ w ⟨rfl,K⟩
             have H:=H.appX 1 z K
             refine ⟨_,z,(v_ z (sg (.string x592) z) (nl (wc_ret ?_)))⟩
             exact (r_thn ⟨.inl z,.string x592,tk0 z ⟨resM z (rv_t rv_nil) z,k528,_,_,_,_,Nat.le_refl _,E,z,H.sel [0,1,2,3,4,5,6] z z⟩⟩)
           · have E:=iF c591 E
             refine wc_skip (n_thn (rg (v_ z (mv (pt b3) z) (v_ z (r_loadB (l:=[.int .i64 (at_ 0 x575.1 0),.int .i64 (at_ 0 x575.1 1),.int .i64 (at_ 0 x575.1 2)]) e_ag_24 (H.get 8 z) z z z) (v_ z (r_nilck z) (v_ z (r_faddr r_fa_47_1 z) (s_ (y_storeBA r_sz_24 H 2 z z z z z z (fun w H=>(nl (rg (v_ z (sg (.string r_str17) z) (nl (wc_ret ?_))))))))))))))
             exact ⟨.inl z,.string r_str17,tk0 z ⟨resM z (rv_t rv_nil) z,k528,_,_,_,_,Nat.le_refl _,E,z,H.sel [0,1,2,3,4,5,6] z z⟩⟩
     rintro _ w ⟨k573,x569,x570,x571,x572,hk574,E,hv_,H⟩
     have hv_:=hv_.symm
     subst hv_
     unfold play_Run.j1 at E
     refine v_ z (sg (.string x572) z) (nl (wc_region (v_ z (mv (.string x572) z) ?_)))
     obtain ⟨g594,E⟩:=grd_some E
     refine v_ z (r_cat z z g594) ?_
     obtain ⟨g596,E⟩:=grd_some E
     refine e_ z (y_bw H 5 z r_en_30 z z g596 (fun v595 w H=>(wl_nil (n_bk (n_thn (wc_region (v_ z (r_add z z) (v_ z (mv (.int .i64 (i64.wrap (x284 + 1))) z) (wl_nil ?_)))))))))
     exact ⟨k573,by omega,_,_,_,_,_,_,_,_,_,_,_,by omega,E,upds_eq ⟨z,z,z,z,z,z,z,trivial⟩,H.sel [0,1,2,3,4,5] z z⟩
   · have E:=iF c540 E
     rcases Bool.eq_false_or_eq_true (decide ((at_ ByteArray.empty x535 0) = r_str5)) with c597 | c597
     · have E:=iT c597 E
       refine v_ z (r_lkS Tryz.underlying9 Tryz.underlying49 r_zf_48 (H.get 3 z) z z z (by simp only [List.nil_append,List.cons_append,lkS,c540,c597,cond_true,cond_false])) (v_ z (sg (.func (.func 19) #[pt b3] #[]) z) (nl (rg (v_ z (mv (.func (.func 19) #[pt b3] #[]) z) (v_ z (r_fneq1 Tryz.underlying48 z z z) (nl (wc_condT z (wc_region (v_ z (mv (.func (.func 19) #[pt b3] #[]) z) (v_ z (mv v537 z) ?_))))))))))
       obtain ⟨⟨g598,g599⟩,E⟩:=grd_some E
       have p601 : (1 : Int).toNat ≤ x535.length:=by omega
       have p602 : x535.length ≤ x535.length:=by omega
       refine v_ z (r_slcLR r_sl_50 (own_rd (H.get 6 z)) z z g598 g599) ?_
       refine e_ z (y_J (fun v w=>∃ (k626 : Nat) (x623 : Int) (x624 : Int) (x625 : ByteArray),k626 ≤ k528 ∧ play_Run.j2 (play_Run.l0 k626) k626 l19 l276 l278 x279 x280 x281 x284 x623 x624 x625 = some r ∧ v = .string x625 ∧ St (Rs.env ).fp w0 w [.gd b2 m275 l276,.lv,.blk b3 #[pt b2,.int .i64 x279,.int .i64 x280,.int .i64 x281,.int .i64 x623,.int .i64 x624,.slice none 0 0,.slice none 0 0] 47,.mf b4 [(.string r_str4,.func (.func 18) #[pt b3] #[]),(.string r_str5,.func (.func 19) #[pt b3] #[]),(.string r_str6,.func (.func 20) #[pt b3] #[]),(.string r_str7,.func (.func 21) #[pt b3] #[]),(.string r_str8,.func (.func 22) #[pt b3] #[]),(.string r_str9,.func (.func 23) #[pt b3] #[]),(.string r_str10,.func (.func 24) #[pt b3] #[]),(.string r_str11,.func (.func 25) #[pt b3] #[]),(.string r_str12,.func (.func 26) #[pt b3] #[]),(.string r_str13,.func (.func 27) #[pt b3] #[])],.own .str 9 v18 l19,.bld b31 v277 (sb l278),.own .str 9 v537 x535]) ?_ ?_)
       · refine (y_inF 38 [pt b3,(slv v537 ((1 : Int).toNat) x535.length 1)] z r_en_19 Tryz.func19 z z z z (rg (v_ z (sg (.string r_str1) z) (nl (rg (v_ z (mv ((slv v537 ((1 : Int).toNat) x535.length 1)) z) ?_))))))
         obtain ⟨x628,E629,E⟩:=bind_some E
         refine e_ z (y_callL r_en_37 z ((play_numbers.calls (H.get 1 z) (H.ownX 6 1 z z z (Rd.slv (own_rd (H.get 6 z)) p601 p602)) E629).mono ?_))
         rintro _ w ⟨v630,rfl,K⟩
         have H:=H.appX 1 z K
         refine ⟨_,z,(v_ z (r_move) (v_ z (r_extract z z) (v_ z (r_extract z z) (v_ z (sg v630 z) (v_ z (sg (.bool x628.2) z) (nl (wc_seq (rg (v_ z (mv (.bool x628.2) z) (v_ z (r_not z) (v_ z (mv (.bool (!x628.2)) z) ?_)))))))))))⟩
         rcases Bool.eq_false_or_eq_true (!x628.2) with c633 | c633
         · have E:=iT c633 E
           refine off_ c633 z z z (off_ c633 z z z (off_ c633 z z z (v_ z (pT (.bool true) z z c633) (nl (wc_condT z (rg (v_ z (sg (.string r_str16) z) (nl (wc_ret ?_)))))))))
           exact (r_thn ⟨.inl z,.string r_str16,tk0 z ⟨resM z (rv_t rv_nil) z,k528,_,_,_,Nat.le_refl _,E,z,H.sel [0,1,2,3,4,5,6] z z⟩⟩)
         · have E:=iF c633 E
           refine on_ c633 z z (mv v630 z) (on_ c633 z z (r_lenR e_ul_45 (own_rd (H.get 7 z)) z) (on_ c633 z z (r_neq z z) (v_ z (pF (.bool (!decide ((x628.1.length : Int) = 2))) z z c633) (nl ?_))))
           refine wc_cond z (fun c634=>?_) (fun c634=>?_)
           · have E:=iT c634 E
             refine rg (v_ z (sg (.string r_str16) z) (nl (wc_ret ?_)))
             exact (r_thn ⟨.inl z,.string r_str16,tk0 z ⟨resM z (rv_t rv_nil) z,k528,_,_,_,Nat.le_refl _,E,z,H.sel [0,1,2,3,4,5,6] z z⟩⟩)
           · have E:=iF c634 E
             refine wc_skip (n_thn (wc_seq (wc_drawnS (ds:=[]) e_mo H z z ?_)))
             have H:=H.drew
             refine wt 0 (tf 1 9) z z z (by kernel_rfl) H (fun w H=>(mv v630 z)) ?_
             obtain ⟨⟨g635,g636⟩,E⟩:=grd_some E
             refine wt 1 (tf 2 9) z z z (by kernel_rfl) H (fun w H=>(r_idx e_sl_45 (own_rd (H.get 7 z)) z z g635 g636)) (wt 2 (tf 3 9) z z z (by kernel_rfl) H (fun w H=>(r_ldI e_sc_3 (own_rd (H.get 7 z)) g635 g636 z)) (wt 3 (tf 4 9) z z z (by kernel_rfl) H (fun w H=>(mv v630 z)) ?_))
             obtain ⟨⟨g637,g638⟩,E⟩:=grd_some E
             refine wt 4 (tf 5 9) z z z (by kernel_rfl) H (fun w H=>(r_idx e_sl_45 (own_rd (H.get 7 z)) z z g637 g638)) (wt 5 (tf 6 9) z z z (by kernel_rfl) H (fun w H=>(r_ldI e_sc_3 (own_rd (H.get 7 z)) g637 g638 z)) (wt 6 (tf 7 9) z z z (by kernel_rfl) H (fun w H=>(r_build (cs:=[.int .i64 (at_ 0 x628.1 0),.int .i64 (at_ 0 x628.1 1)]) e_bd_44 z)) (wa_one (i:=7) (l':=(tf 8 9)) z z z (by kernel_rfl) (y_allocS e_zr_44 H (fun b639 w H=>⟨fun _=>H.sel [0,1,2,3,4,5,6,7] z z,(wa_one (i:=8) (l':=(tf 9 9)) z z z (by kernel_rfl) (y_storeBA e_sz_44 H 8 z z z z z z (fun w H=>⟨fun _=>H.sel [0,1,2,3,4,5,6,7] z z,(wa_done (by kernel_rfl) (n_thn (wc_seq (rg (v_ z (r_loadB (l:=[.int .i64 (at_ 0 x628.1 0),.int .i64 (at_ 0 x628.1 1)]) e_ag_44 (H.get 8 z) z z z) ?_)))))⟩)))⟩)))))
             obtain ⟨x640,E641,E⟩:=bind_some E
             refine e_ z (y_callL r_en_40 z ((pick_Right.calls E641).mono ?_))
             rintro _ w ⟨rfl,K⟩
             have H:=H.app K
             refine ⟨_,z,?_⟩
             have H : St (Rs.env ).fp w0 _ [.gd b2 m275 l276,.lv,.blk b3 #[pt b2,.int .i64 x279,.int .i64 x280,.int .i64 x281,.int .i64 x282,.int .i64 x283,.slice none 0 0,.slice none 0 0] 47,.mf b4 [(.string r_str4,.func (.func 18) #[pt b3] #[]),(.string r_str5,.func (.func 19) #[pt b3] #[]),(.string r_str6,.func (.func 20) #[pt b3] #[]),(.string r_str7,.func (.func 21) #[pt b3] #[]),(.string r_str8,.func (.func 22) #[pt b3] #[]),(.string r_str9,.func (.func 23) #[pt b3] #[]),(.string r_str10,.func (.func 24) #[pt b3] #[]),(.string r_str11,.func (.func 25) #[pt b3] #[]),(.string r_str12,.func (.func 26) #[pt b3] #[]),(.string r_str13,.func (.func 27) #[pt b3] #[])],.own .str 9 v18 l19,.bld b31 v277 (sb l278),.own .str 9 v537 x535,.own (.int .i64) 3 v630 x628.1,.blk b639 #[.int .i64 (at_ 0 x628.1 0),.int .i64 (at_ 0 x628.1 1)] 44]:=H
             refine v_ z (sg (.int .u16 x640) z) (nl (rg (v_ z (mv (.int .u16 x640) z) (v_ z (r_neq z z) (nl ?_)))))
             refine wc_cond z (fun c642=>?_) (fun c642=>?_)
             · have E:=iT c642 E
               refine rg (v_ z (mv (.int .u16 x640) z) ?_)
               obtain ⟨x643,E644,E⟩:=bind_some E
               refine e_ z (y_callL r_en_39 z ((play_fail.calls (H.get 1 z) E644).mono ?_))
               rintro _ w ⟨rfl,K⟩
               have H:=H.appX 1 z K
               refine ⟨_,z,(v_ z (sg (.string x643) z) (nl (wc_ret ?_)))⟩
               exact (r_thn ⟨.inl z,.string x643,tk0 z ⟨resM z (rv_t rv_nil) z,k528,_,_,_,Nat.le_refl _,E,z,H.sel [0,1,2,3,4,5,6] z z⟩⟩)
             · have E:=iF c642 E
               refine wc_skip (n_thn (rg (v_ z (mv (pt b3) z) (v_ z (r_loadB (l:=[.int .i64 (at_ 0 x628.1 0),.int .i64 (at_ 0 x628.1 1)]) e_ag_44 (H.get 8 z) z z z) (v_ z (r_nilck z) (v_ z (r_faddr r_fa_47_2 z) (s_ (y_storeBA e_sz_44 H 2 z z z z z z (fun w H=>(nl (rg (v_ z (sg (.string r_str17) z) (nl (wc_ret ?_))))))))))))))
               exact ⟨.inl z,.string r_str17,tk0 z ⟨resM z (rv_t rv_nil) z,k528,_,_,_,Nat.le_refl _,E,z,H.sel [0,1,2,3,4,5,6] z z⟩⟩
       rintro _ w ⟨k626,x623,x624,x625,hk627,E,hv_,H⟩
       have hv_:=hv_.symm
       subst hv_
       unfold play_Run.j2 at E
       refine v_ z (sg (.string x625) z) (nl (wc_region (v_ z (mv (.string x625) z) ?_)))
       obtain ⟨g645,E⟩:=grd_some E
       refine v_ z (r_cat z z g645) ?_
       obtain ⟨g647,E⟩:=grd_some E
       refine e_ z (y_bw H 5 z r_en_30 z z g647 (fun v646 w H=>(wl_nil (n_bk (n_thn (wc_region (v_ z (r_add z z) (v_ z (mv (.int .i64 (i64.wrap (x284 + 1))) z) (wl_nil ?_)))))))))
       exact ⟨k626,by omega,_,_,_,_,_,_,_,_,_,_,_,by omega,E,upds_eq ⟨z,z,z,z,z,z,z,trivial⟩,H.sel [0,1,2,3,4,5] z z⟩
     · have E:=iF c597 E
       rcases Bool.eq_false_or_eq_true (decide ((at_ ByteArray.empty x535 0) = r_str6)) with c648 | c648
       · have E:=iT c648 E
         refine v_ z (r_lkS Tryz.underlying9 Tryz.underlying49 r_zf_48 (H.get 3 z) z z z (by simp only [List.nil_append,List.cons_append,lkS,c540,c597,c648,cond_true,cond_false])) (v_ z (sg (.func (.func 20) #[pt b3] #[]) z) (nl (rg (v_ z (mv (.func (.func 20) #[pt b3] #[]) z) (v_ z (r_fneq1 Tryz.underlying48 z z z) (nl (wc_condT z (wc_region (v_ z (mv (.func (.func 20) #[pt b3] #[]) z) (v_ z (mv v537 z) ?_))))))))))
         obtain ⟨⟨g649,g650⟩,E⟩:=grd_some E
         have p652 : (1 : Int).toNat ≤ x535.length:=by omega
         have p653 : x535.length ≤ x535.length:=by omega
         refine v_ z (r_slcLR r_sl_50 (own_rd (H.get 6 z)) z z g649 g650) ?_
         refine e_ z (y_J (fun v w=>∃ (k682 : Nat) (l680 : List Int) (x681 : ByteArray) (m679 : DS),k682 ≤ k528 ∧ play_Run.j3 (play_Run.l0 k682) k682 l19 l278 x279 x280 x281 x282 x283 x284 l680 x681 = some r ∧ v = .string x681 ∧ St (Rs.env ).fp w0 w [.gd b2 m679 l680,.lv,.blk b3 #[pt b2,.int .i64 x279,.int .i64 x280,.int .i64 x281,.int .i64 x282,.int .i64 x283,.slice none 0 0,.slice none 0 0] 47,.mf b4 [(.string r_str4,.func (.func 18) #[pt b3] #[]),(.string r_str5,.func (.func 19) #[pt b3] #[]),(.string r_str6,.func (.func 20) #[pt b3] #[]),(.string r_str7,.func (.func 21) #[pt b3] #[]),(.string r_str8,.func (.func 22) #[pt b3] #[]),(.string r_str9,.func (.func 23) #[pt b3] #[]),(.string r_str10,.func (.func 24) #[pt b3] #[]),(.string r_str11,.func (.func 25) #[pt b3] #[]),(.string r_str12,.func (.func 26) #[pt b3] #[]),(.string r_str13,.func (.func 27) #[pt b3] #[])],.own .str 9 v18 l19,.bld b31 v277 (sb l278),.own .str 9 v537 x535]) ?_ ?_)
         · refine (y_inF 44 [pt b3,(slv v537 ((1 : Int).toNat) x535.length 1)] z r_en_20 Tryz.func20 z z z z (rg (v_ z (sg (.string r_str1) z) (nl (wc_seq (rg (v_ z (mv ((slv v537 ((1 : Int).toNat) x535.length 1)) z) (v_ z (r_lenR r_ul_50 (Rd.slv (own_rd (H.get 6 z)) p652 p653) z) (v_ z (r_neq z z) (nl ?_))))))))))
           refine wc_cond z (fun c685=>?_) (fun c685=>?_)
           · have E:=iT c685 E
             refine rg (v_ z (sg (.string r_str16) z) (nl (wc_ret ?_)))
             exact (r_thn ⟨.inl z,.string r_str16,tk0 z ⟨resM z (rv_t rv_nil) z,k528,_,_,_,Nat.le_refl _,E,z,H⟩⟩)
           · have E:=iF c685 E
             refine wc_skip (n_thn (rg (v_ z (mv ((slv v537 ((1 : Int).toNat) x535.length 1)) z) ?_)))
             obtain ⟨⟨g686,g687⟩,E⟩:=grd_some E
             refine v_ z (r_idx r_sl_50 (Rd.slv (own_rd (H.get 6 z)) p652 p653) z z g686 g687) (v_ z (r_ldE (e:=.str) (j:=0) r_sc_9 (Rd.slv (own_rd (H.get 6 z)) p652 p653) (at_get ByteArray.empty g686 g687) z z) ?_)
             obtain ⟨x688,E689,E⟩:=bind_some E
             refine e_ z (y_callL r_en_41 z ((play_unhex.calls E689).mono ?_))
             rintro _ w ⟨v690,rfl,K⟩
             have H:=H.app K
             refine ⟨_,z,(v_ z (r_move) (v_ z (r_extract z z) (v_ z (r_extract z z) (v_ z (sg v690 z) (v_ z (sg (.bool x688.2) z) (nl (wc_seq (rg (v_ z (mv (.bool x688.2) z) (v_ z (r_not z) (nl ?_)))))))))))⟩
             refine wc_cond z (fun c692=>?_) (fun c692=>?_)
             · have E:=iT c692 E
               refine rg (v_ z (sg (.string r_str16) z) (nl (wc_ret ?_)))
               exact (r_thn ⟨.inl z,.string r_str16,tk0 z ⟨resM z (rv_t rv_nil) z,k528,_,_,_,Nat.le_refl _,E,z,H.sel [0,1,2,3,4,5,6] z z⟩⟩)
             · have E:=iF c692 E
               refine wc_skip (n_thn (wc_seq (wc_drawnW (ds:=[]) (fun w=>∃ (d' : DS) (n' : List Int),St (Rs.env ).fp w0 w [.gd b2 d' n',.lv,.blk b3 #[pt b2,.int .i64 x279,.int .i64 x280,.int .i64 x281,.int .i64 x282,.int .i64 x283,.slice none 0 0,.slice none 0 0] 47,.mf b4 [(.string r_str4,.func (.func 18) #[pt b3] #[]),(.string r_str5,.func (.func 19) #[pt b3] #[]),(.string r_str6,.func (.func 20) #[pt b3] #[]),(.string r_str7,.func (.func 21) #[pt b3] #[]),(.string r_str8,.func (.func 22) #[pt b3] #[]),(.string r_str9,.func (.func 23) #[pt b3] #[]),(.string r_str10,.func (.func 24) #[pt b3] #[]),(.string r_str11,.func (.func 25) #[pt b3] #[]),(.string r_str12,.func (.func 26) #[pt b3] #[]),(.string r_str13,.func (.func 27) #[pt b3] #[])],.own .str 9 v18 l19,.bld b31 v277 (sb l278),.own .str 9 v537 x535,.own (.int .u8) 5 v690 x688.1]) e_mo H z z ?_)))
               have H:=H.drew
               refine wt 0 (tf 1 19) z z z (by kernel_rfl) ⟨_,_,H⟩ (fun w ⟨d',n',H⟩=>(mv (pt b3) z)) (wt 1 (tf 2 19) z z z (by kernel_rfl) ⟨_,_,H⟩ (fun w ⟨d',n',H⟩=>(r_nilck z)) (wt 2 (tf 3 19) z z z (by kernel_rfl) ⟨_,_,H⟩ (fun w ⟨d',n',H⟩=>(r_faddr r_fa_47_0 z)) (wt 3 (tf 4 19) z z z (by kernel_rfl) ⟨_,_,H⟩ (fun w ⟨d',n',H⟩=>(r_load r_sc_41 z (blk_cell (H.get 2 z) z))) (wt 4 (tf 5 19) z z z (by kernel_rfl) ⟨_,_,H⟩ (fun w ⟨d',n',H⟩=>(mv (pt b3) z)) (wt 5 (tf 6 19) z z z (by kernel_rfl) ⟨_,_,H⟩ (fun w ⟨d',n',H⟩=>(r_nilck z)) (wt 6 (tf 7 19) z z z (by kernel_rfl) ⟨_,_,H⟩ (fun w ⟨d',n',H⟩=>(r_faddr r_fa_47_1 z)) (wt 7 (tf 8 19) z z z (by kernel_rfl) ⟨_,_,H⟩ (fun w ⟨d',n',H⟩=>(r_loadB (l:=[.int .i64 x279,.int .i64 x280,.int .i64 x281]) e_ag_24 (H.get 2 z) z z z)) (wt 8 (tf 9 19) z z z (by kernel_rfl) ⟨_,_,H⟩ (fun w ⟨d',n',H⟩=>(mv (pt b3) z)) (wt 9 (tf 10 19) z z z (by kernel_rfl) ⟨_,_,H⟩ (fun w ⟨d',n',H⟩=>(r_nilck z)) (wt 10 (tf 11 19) z z z (by kernel_rfl) ⟨_,_,H⟩ (fun w ⟨d',n',H⟩=>(r_faddr r_fa_47_2 z)) (wt 11 (tf 12 19) z z z (by kernel_rfl) ⟨_,_,H⟩ (fun w ⟨d',n',H⟩=>(r_loadB (l:=[.int .i64 x282,.int .i64 x283]) e_ag_44 (H.get 2 z) z z z)) (wt 12 (tf 13 19) z z z (by kernel_rfl) ⟨_,_,H⟩ (fun w ⟨d',n',H⟩=>(mv v690 z)) ?_))))))))))))
               obtain ⟨x697,E698,E⟩:=bind_some E
               refine wa_one (i:=13) (l':=(tf 14 19)) z z z (by kernel_rfl) (y_callL r_en_42 z ((codec_Desk_Encode.calls (H.get 0 z) (H.ownX 7 0 z z z (own_rd (H.get 7 z))) E698).mono ?_))
               rintro _ w ⟨m700,v699,rfl,K⟩
               have H:=H.appX 0 z K
               refine ⟨_,z,⟨fun _=>⟨_,_,H.sel [0,1,2,3,4,5,6,7] z z⟩,(wt 14 (tf 15 19) z z z (by kernel_rfl) ⟨_,_,H.sel [0,1,2,3,4,5,6,7] z z⟩ (fun w ⟨d',n',H⟩=>(r_move)) (wt 15 (tf 16 19) z z z (by kernel_rfl) ⟨_,_,H.sel [0,1,2,3,4,5,6,7] z z⟩ (fun w ⟨d',n',H⟩=>(r_extract z z)) (wt 16 (tf 17 19) z z z (by kernel_rfl) ⟨_,_,H.sel [0,1,2,3,4,5,6,7] z z⟩ (fun w ⟨d',n',H⟩=>(r_extract z z)) (wa_oneV (i:=17) (l':=(tf 18 19)) z z z (by kernel_rfl) (⟨_,_,H.sel [0,1,2,3,4,5,6,7] z z⟩) (sg v699 z) (wt 18 (tf 19 19) z z z (by kernel_rfl) ⟨_,_,H.sel [0,1,2,3,4,5,6,7] z z⟩ (fun w ⟨d',n',H⟩=>(sg (.int .u16 x697.1.2) z)) (wa_done (by kernel_rfl) (n_thn (wc_seq (rg (v_ z (mv (.int .u16 x697.1.2) z) (v_ z (r_neq z z) (nl ?_))))))))))))⟩⟩
               refine wc_cond z (fun c701=>?_) (fun c701=>?_)
               · have E:=iT c701 E
                 refine rg (v_ z (mv (.int .u16 x697.1.2) z) ?_)
                 obtain ⟨x702,E703,E⟩:=bind_some E
                 refine e_ z (y_callL r_en_39 z ((play_fail.calls (H.get 1 z) E703).mono ?_))
                 rintro _ w ⟨rfl,K⟩
                 have H:=H.appX 1 z K
                 refine ⟨_,z,(v_ z (sg (.string x702) z) (nl (wc_ret ?_)))⟩
                 exact (r_thn ⟨.inl z,.string x702,tk0 z ⟨resM z (rv_t rv_nil) z,k528,_,_,_,Nat.le_refl _,E,z,H.sel [0,1,2,3,4,5,6] z z⟩⟩)
               · have E:=iF c701 E
                 refine wc_skip (n_thn (rg (v_ z (mv v699 z) ?_)))
                 obtain ⟨x704,E705,E⟩:=bind_some E
                 refine e_ z (y_callL r_en_43 z ((play_hex.calls (gd_gt (H.get 0 z)) (ol_gt (H.ownX 8 0 z z z (own_rd (H.get 8 z)))) E705).mono ?_))
                 rintro _ w ⟨rfl,K⟩
                 have H:=H.appG 0 z K
                 refine ⟨_,z,(v_ z (sg (.string x704) z) (nl (wc_ret ?_)))⟩
                 exact ⟨.inl z,.string x704,tk0 z ⟨resM z (rv_t rv_nil) z,k528,_,_,_,Nat.le_refl _,E,z,H.sel [0,1,2,3,4,5,6] z z⟩⟩
         rintro _ w ⟨k682,l680,x681,m679,hk683,E,hv_,H⟩
         have hv_:=hv_.symm
         subst hv_
         unfold play_Run.j3 at E
         refine v_ z (sg (.string x681) z) (nl (wc_region (v_ z (mv (.string x681) z) ?_)))
         obtain ⟨g706,E⟩:=grd_some E
         refine v_ z (r_cat z z g706) ?_
         obtain ⟨g708,E⟩:=grd_some E
         refine e_ z (y_bw H 5 z r_en_30 z z g708 (fun v707 w H=>(wl_nil (n_bk (n_thn (wc_region (v_ z (r_add z z) (v_ z (mv (.int .i64 (i64.wrap (x284 + 1))) z) (wl_nil ?_)))))))))
         exact ⟨k682,by omega,_,_,_,_,_,_,_,_,_,_,_,by omega,E,upds_eq ⟨z,z,z,z,z,z,z,trivial⟩,H.sel [0,1,2,3,4,5] z z⟩
       · have E:=iF c648 E
         rcases Bool.eq_false_or_eq_true (decide ((at_ ByteArray.empty x535 0) = r_str7)) with c709 | c709
         · have E:=iT c709 E
           refine v_ z (r_lkS Tryz.underlying9 Tryz.underlying49 r_zf_48 (H.get 3 z) z z z (by simp only [List.nil_append,List.cons_append,lkS,c540,c597,c648,c709,cond_true,cond_false])) (v_ z (sg (.func (.func 21) #[pt b3] #[]) z) (nl (rg (v_ z (mv (.func (.func 21) #[pt b3] #[]) z) (v_ z (r_fneq1 Tryz.underlying48 z z z) (nl (wc_condT z (wc_region (v_ z (mv (.func (.func 21) #[pt b3] #[]) z) (v_ z (mv v537 z) ?_))))))))))
           obtain ⟨⟨g710,g711⟩,E⟩:=grd_some E
           have p713 : (1 : Int).toNat ≤ x535.length:=by omega
           have p714 : x535.length ≤ x535.length:=by omega
           refine v_ z (r_slcLR r_sl_50 (own_rd (H.get 6 z)) z z g710 g711) ?_
           refine e_ z (y_J (fun v w=>∃ (k796 : Nat) (l794 : List Int) (x795 : ByteArray) (m793 : DS),k796 ≤ k528 ∧ play_Run.j4 (play_Run.l0 k796) k796 l19 l278 x279 x280 x281 x282 x283 x284 l794 x795 = some r ∧ v = .string x795 ∧ St (Rs.env ).fp w0 w [.gd b2 m793 l794,.lv,.blk b3 #[pt b2,.int .i64 x279,.int .i64 x280,.int .i64 x281,.int .i64 x282,.int .i64 x283,.slice none 0 0,.slice none 0 0] 47,.mf b4 [(.string r_str4,.func (.func 18) #[pt b3] #[]),(.string r_str5,.func (.func 19) #[pt b3] #[]),(.string r_str6,.func (.func 20) #[pt b3] #[]),(.string r_str7,.func (.func 21) #[pt b3] #[]),(.string r_str8,.func (.func 22) #[pt b3] #[]),(.string r_str9,.func (.func 23) #[pt b3] #[]),(.string r_str10,.func (.func 24) #[pt b3] #[]),(.string r_str11,.func (.func 25) #[pt b3] #[]),(.string r_str12,.func (.func 26) #[pt b3] #[]),(.string r_str13,.func (.func 27) #[pt b3] #[])],.own .str 9 v18 l19,.bld b31 v277 (sb l278),.own .str 9 v537 x535]) ?_ ?_)
           · refine (y_inF 66 [pt b3,(slv v537 ((1 : Int).toNat) x535.length 1)] z r_en_21 Tryz.func21 z z z z (rg (v_ z (sg (.string r_str1) z) (nl (wc_seq (rg (v_ z (mv ((slv v537 ((1 : Int).toNat) x535.length 1)) z) (v_ z (r_lenR r_ul_50 (Rd.slv (own_rd (H.get 6 z)) p713 p714) z) (v_ z (r_eql z z) (nl ?_))))))))))
             refine wc_cond z (fun c799=>?_) (fun c799=>?_)
             · have E:=iT c799 E
               refine rg (v_ z (sg (.string r_str16) z) (nl (wc_ret ?_)))
               exact (r_thn ⟨.inl z,.string r_str16,tk0 z ⟨resM z (rv_t rv_nil) z,k528,_,_,_,Nat.le_refl _,E,z,H⟩⟩)
             · have E:=iF c799 E
               refine wc_skip (n_thn (rg (v_ z (mv ((slv v537 ((1 : Int).toNat) x535.length 1)) z) ?_)))
               obtain ⟨⟨g800,g801⟩,E⟩:=grd_some E
               refine v_ z (r_idx r_sl_50 (Rd.slv (own_rd (H.get 6 z)) p713 p714) z z g800 g801) (v_ z (r_ldE (e:=.str) (j:=0) r_sc_9 (Rd.slv (own_rd (H.get 6 z)) p713 p714) (at_get ByteArray.empty g800 g801) z z) ?_)
               obtain ⟨x802,E803,E⟩:=bind_some E
               refine e_ z (y_callL r_en_41 z ((play_unhex.calls E803).mono ?_))
               rintro _ w ⟨v804,rfl,K⟩
               have H:=H.app K
               refine ⟨_,z,(v_ z (r_move) (v_ z (r_extract z z) (v_ z (r_extract z z) (v_ z (sg v804 z) (v_ z (sg (.bool x802.2) z) (nl (rg (v_ z (mv ((slv v537 ((1 : Int).toNat) x535.length 1)) z) ?_))))))))⟩
               obtain ⟨⟨g805,g806⟩,E⟩:=grd_some E
               have p808 : (1 : Int).toNat ≤ ((x535.take x535.length).drop ((1 : Int).toNat)).length:=by omega
               have p809 : ((x535.take x535.length).drop ((1 : Int).toNat)).length ≤ ((x535.take x535.length).drop ((1 : Int).toNat)).length:=by omega
               refine v_ z (r_slcLR r_sl_50 (Rd.slv (own_rd (H.get 6 z)) p713 p714) z z g805 g806) ?_
               obtain ⟨x810,E811,E⟩:=bind_some E
               refine e_ z (y_callL r_en_37 z ((play_numbers.calls (H.get 1 z) (H.ownX 6 1 z z z (Rd.slv (Rd.slv (own_rd (H.get 6 z)) p713 p714) p808 p809)) E811).mono ?_))
               rintro _ w ⟨v812,rfl,K⟩
               have H:=H.appX 1 z K
               refine ⟨_,z,(v_ z (r_move) (v_ z (r_extract z z) (v_ z (r_extract z z) (v_ z (sg v812 z) (v_ z (sg (.bool x810.2) z) (nl (wc_seq (rg (v_ z (mv (.bool x802.2) z) (v_ z (r_not z) (v_ z (mv (.bool (!x802.2)) z) ?_)))))))))))⟩
               rcases Bool.eq_false_or_eq_true (!x802.2) with c815 | c815
               · have E:=iT c815 E
                 refine off_ c815 z z z (off_ c815 z z z (v_ z (pT (.bool true) z z c815) (nl (wc_condT z (rg (v_ z (sg (.string r_str16) z) (nl (wc_ret ?_))))))))
                 exact (r_thn ⟨.inl z,.string r_str16,tk0 z ⟨resM z (rv_t rv_nil) z,k528,_,_,_,Nat.le_refl _,E,z,H.sel [0,1,2,3,4,5,6] z z⟩⟩)
               · have E:=iF c815 E
                 refine on_ c815 z z (mv (.bool x810.2) z) (on_ c815 z z (r_not z) (v_ z (pF (.bool (!x810.2)) z z c815) (nl ?_)))
                 refine wc_cond z (fun c816=>?_) (fun c816=>?_)
                 · have E:=iT c816 E
                   refine rg (v_ z (sg (.string r_str16) z) (nl (wc_ret ?_)))
                   exact (r_thn ⟨.inl z,.string r_str16,tk0 z ⟨resM z (rv_t rv_nil) z,k528,_,_,_,Nat.le_refl _,E,z,H.sel [0,1,2,3,4,5,6] z z⟩⟩)
                 · have E:=iF c816 E
                   refine wc_skip (n_thn (wc_seq (wc_drawnW (ds:=[]) (fun w=>∃ (d' : DS) (n' : List Int),St (Rs.env ).fp w0 w [.gd b2 d' n',.lv,.blk b3 #[pt b2,.int .i64 x279,.int .i64 x280,.int .i64 x281,.int .i64 x282,.int .i64 x283,.slice none 0 0,.slice none 0 0] 47,.mf b4 [(.string r_str4,.func (.func 18) #[pt b3] #[]),(.string r_str5,.func (.func 19) #[pt b3] #[]),(.string r_str6,.func (.func 20) #[pt b3] #[]),(.string r_str7,.func (.func 21) #[pt b3] #[]),(.string r_str8,.func (.func 22) #[pt b3] #[]),(.string r_str9,.func (.func 23) #[pt b3] #[]),(.string r_str10,.func (.func 24) #[pt b3] #[]),(.string r_str11,.func (.func 25) #[pt b3] #[]),(.string r_str12,.func (.func 26) #[pt b3] #[]),(.string r_str13,.func (.func 27) #[pt b3] #[])],.own .str 9 v18 l19,.bld b31 v277 (sb l278),.own .str 9 v537 x535,.own (.int .u8) 5 v804 x802.1,.own (.int .i64) 3 v812 x810.1]) e_mo H z z ?_)))
                   have H:=H.drew
                   refine wt 0 (tf 1 21) z z z (by kernel_rfl) ⟨_,_,H⟩ (fun w ⟨d',n',H⟩=>(mv (pt b3) z)) (wt 1 (tf 2 21) z z z (by kernel_rfl) ⟨_,_,H⟩ (fun w ⟨d',n',H⟩=>(r_nilck z)) (wt 2 (tf 3 21) z z z (by kernel_rfl) ⟨_,_,H⟩ (fun w ⟨d',n',H⟩=>(r_faddr r_fa_47_0 z)) (wt 3 (tf 4 21) z z z (by kernel_rfl) ⟨_,_,H⟩ (fun w ⟨d',n',H⟩=>(r_load r_sc_41 z (blk_cell (H.get 2 z) z))) (wt 4 (tf 5 21) z z z (by kernel_rfl) ⟨_,_,H⟩ (fun w ⟨d',n',H⟩=>(mv (pt b3) z)) (wt 5 (tf 6 21) z z z (by kernel_rfl) ⟨_,_,H⟩ (fun w ⟨d',n',H⟩=>(r_nilck z)) (wt 6 (tf 7 21) z z z (by kernel_rfl) ⟨_,_,H⟩ (fun w ⟨d',n',H⟩=>(r_faddr r_fa_47_1 z)) (wt 7 (tf 8 21) z z z (by kernel_rfl) ⟨_,_,H⟩ (fun w ⟨d',n',H⟩=>(r_loadB (l:=[.int .i64 x279,.int .i64 x280,.int .i64 x281]) e_ag_24 (H.get 2 z) z z z)) (wt 8 (tf 9 21) z z z (by kernel_rfl) ⟨_,_,H⟩ (fun w ⟨d',n',H⟩=>(mv (pt b3) z)) (wt 9 (tf 10 21) z z z (by kernel_rfl) ⟨_,_,H⟩ (fun w ⟨d',n',H⟩=>(r_nilck z)) (wt 10 (tf 11 21) z z z (by kernel_rfl) ⟨_,_,H⟩ (fun w ⟨d',n',H⟩=>(r_faddr r_fa_47_2 z)) (wt 11 (tf 12 21) z z z (by kernel_rfl) ⟨_,_,H⟩ (fun w ⟨d',n',H⟩=>(r_loadB (l:=[.int .i64 x282,.int .i64 x283]) e_ag_44 (H.get 2 z) z z z)) (wt 12 (tf 13 21) z z z (by kernel_rfl) ⟨_,_,H⟩ (fun w ⟨d',n',H⟩=>(mv v804 z)) (wt 13 (tf 14 21) z z z (by kernel_rfl) ⟨_,_,H⟩ (fun w ⟨d',n',H⟩=>(mv v812 z)) ?_)))))))))))))
                   obtain ⟨x833,E834,E⟩:=bind_some E
                   refine wa_either (i:=14) (j:=18) (li:=(tf 15 21)) (lj:=#[true,true,true,true,true,true,true,true,true,true,true,true,true,true,false,false,false,false,true,false,false]) z z z z z z (by kernel_rfl) ?_ ?_
                   · refine (y_callL r_en_44 z ((codec_Desk_Decode.calls (H.get 0 z) (H.ownX 7 0 z z z (own_rd (H.get 7 z))) (H.ownX 8 0 z z z (own_rd (H.get 8 z))) E834).mono ?_))
                     rintro _ w ⟨m838,v835,v836,v837,rfl,K⟩
                     have H:=H.appX 0 z K
                     refine ⟨_,z,⟨fun _=>⟨_,_,H.sel [0,1,2,3,4,5,6,7,8] z z⟩,(wt 15 (tf 16 21) z z z (by kernel_rfl) (⟨_,_,H.sel [0,1,2,3,4,5,6,7,8] z z⟩) (fun w ⟨d',n',H⟩=>(r_move)) (wt 16 (tf 17 21) z z z (by kernel_rfl) (⟨_,_,H.sel [0,1,2,3,4,5,6,7,8] z z⟩) (fun w ⟨d',n',H⟩=>(r_extract z z)) (wt 17 (tf 18 21) z z z (by kernel_rfl) (⟨_,_,H.sel [0,1,2,3,4,5,6,7,8] z z⟩) (fun w ⟨d',n',H⟩=>(r_extract z z)) (wa_one (i:=18) (l':=(tf 19 21)) z z z (by kernel_rfl) (y_allocS e_zr_101 H (fun b839 w H=>⟨fun _=>⟨_,_,H.sel [0,1,2,3,4,5,6,7,8] z z⟩,?_⟩))))))⟩⟩
                     have H : St (Rs.env ).fp w0 _ [.gd b2 m838 x833.2,.lv,.blk b3 #[pt b2,.int .i64 x279,.int .i64 x280,.int .i64 x281,.int .i64 x282,.int .i64 x283,.slice none 0 0,.slice none 0 0] 47,.mf b4 [(.string r_str4,.func (.func 18) #[pt b3] #[]),(.string r_str5,.func (.func 19) #[pt b3] #[]),(.string r_str6,.func (.func 20) #[pt b3] #[]),(.string r_str7,.func (.func 21) #[pt b3] #[]),(.string r_str8,.func (.func 22) #[pt b3] #[]),(.string r_str9,.func (.func 23) #[pt b3] #[]),(.string r_str10,.func (.func 24) #[pt b3] #[]),(.string r_str11,.func (.func 25) #[pt b3] #[]),(.string r_str12,.func (.func 26) #[pt b3] #[]),(.string r_str13,.func (.func 27) #[pt b3] #[])],.own .str 9 v18 l19,.bld b31 v277 (sb l278),.own .str 9 v537 x535,.own (.int .u8) 5 v804 x802.1,.own (.int .i64) 3 v812 x810.1,.own (.int .u8) 5 v835 x833.1.1.1,.own (.int .u8) 5 v836 x833.1.1.2.1,.own (.int .i64) 3 v837 x833.1.1.2.2,.blk b839 #[.slice none 0 0,.slice none 0 0,.slice none 0 0] 101]:=H
                     obtain ⟨p840,n841,c842,rfl⟩:=own_form (H.get 9 z)
                     obtain ⟨p843,n844,c845,rfl⟩:=own_form (H.get 10 z)
                     obtain ⟨p846,n847,c848,rfl⟩:=own_form (H.get 11 z)
                     refine wa_one (i:=19) (l':=(tf 20 21)) z z z (by kernel_rfl) (y_storeBA e_sz_101 H 12 z z z z z z (fun w H=>⟨fun _=>⟨_,_,H.sel [0,1,2,3,4,5,6,7,8] z z⟩,(wt 20 (tf 21 21) z z z (by kernel_rfl) ⟨_,_,H.sel [0,1,2,3,4,5,6,7,8] z z⟩ (fun w ⟨d',n',H⟩=>(sg (.int .u16 x833.1.2) z)) (wa_done (by kernel_rfl) (n_thn (wc_seq (rg (v_ z (mv (.int .u16 x833.1.2) z) (v_ z (r_neq z z) (nl ?_))))))))⟩))
                     refine wc_cond z (fun c852=>?_) (fun c852=>?_)
                     · have E:=iT c852 E
                       refine rg (v_ z (mv (.int .u16 x833.1.2) z) ?_)
                       obtain ⟨x853,E854,E⟩:=bind_some E
                       refine e_ z (y_callL r_en_39 z ((play_fail.calls (H.get 1 z) E854).mono ?_))
                       rintro _ w ⟨rfl,K⟩
                       have H:=H.appX 1 z K
                       refine ⟨_,z,(v_ z (sg (.string x853) z) (nl (wc_ret ?_)))⟩
                       exact (r_thn ⟨.inl z,.string x853,tk0 z ⟨resM z (rv_t rv_nil) z,k528,_,_,_,Nat.le_refl _,E,z,H.sel [0,1,2,3,4,5,6] z z⟩⟩)
                     · have E:=iF c852 E
                       refine wc_skip (n_thn (wc_seq (wc_drawnS (ds:=[]) e_mo H z z ?_)))
                       have H:=H.drew
                       refine wt 0 (tf 1 12) z z z (by kernel_rfl) H (fun w H=>(r_faddr r_fa_101_1 z)) (wt 1 (tf 2 12) z z z (by kernel_rfl) H (fun w H=>(r_load e_sc_22 z (blk_cell (H.get 12 z) z))) (wt 3 #[true,true,false,true,false,false,false,false,false,false,false,false] z z z (by kernel_rfl) H (fun w H=>(r_faddr r_fa_101_0 z)) (wt 4 #[true,true,false,true,true,false,false,false,false,false,false,false] z z z (by kernel_rfl) H (fun w H=>(r_load e_sc_22 z (blk_cell (H.get 12 z) z))) (wt 6 #[true,true,false,true,true,false,true,false,false,false,false,false] z z z (by kernel_rfl) H (fun w H=>(r_faddr r_fa_101_2 z)) (wt 7 #[true,true,false,true,true,false,true,true,false,false,false,false] z z z (by kernel_rfl) H (fun w H=>(r_load e_sc_45 z (blk_cell (H.get 12 z) z))) ?_)))))
                       obtain ⟨x864,E865,E⟩:=bind_some E
                       refine wa_one (i:=2) (l':=#[true,true,true,true,true,false,true,true,false,false,false,false]) z z z (by kernel_rfl) (y_callL r_en_43 z ((play_hex.calls (gd_gt (H.get 0 z)) (ol_gt (H.ownX 10 0 z z z (own_rd (H.get 10 z)))) E865).mono ?_))
                       rintro _ w ⟨rfl,K⟩
                       have H:=H.appG 0 z K
                       refine ⟨_,z,⟨fun _=>H.sel [0,1,2,3,4,5,6,7,8,9,10,11,12] z z,?_⟩⟩
                       obtain ⟨x866,E867,E⟩:=bind_some E
                       refine wa_one (i:=5) (l':=(tf 8 12)) z z z (by kernel_rfl) (y_callL r_en_43 z ((play_hex.calls (gd_gt (H.get 0 z)) (ol_gt (H.ownX 9 0 z z z (own_rd (H.get 9 z)))) E867).mono ?_))
                       rintro _ w ⟨rfl,K⟩
                       have H:=H.appG 0 z K
                       refine ⟨_,z,⟨fun _=>H.sel [0,1,2,3,4,5,6,7,8,9,10,11,12] z z,?_⟩⟩
                       obtain ⟨x868,E869,E⟩:=bind_some E
                       refine wa_one (i:=8) (l':=(tf 9 12)) z z z (by kernel_rfl) (y_callL r_en_46 z ((play_list.calls (H.get 1 z) (H.ownX 11 1 z z z (own_rd (H.get 11 z))) E869).mono ?_))
                       rintro _ w ⟨rfl,K⟩
                       have H:=H.appX 1 z K
                       refine ⟨_,z,⟨fun _=>H.sel [0,1,2,3,4,5,6,7,8,9,10,11,12] z z,(wa_one (i:=9) (l':=(tf 10 12)) z z z (by kernel_rfl) (y_bsL (e:=.str) (l:=[x864,x866,x868]) r_sl_50 H z (by decide) ⟨z,z,z,z,z,z,trivial⟩ (by decide) (fun v870 w H=>⟨fun _=>H.sel [0,1,2,3,4,5,6,7,8,9,10,11,12] z z,?_⟩)))⟩⟩
                       have H : St (Rs.env ).fp w0 _ [.gd b2 m838 x833.2,.lv,.blk b3 #[pt b2,.int .i64 x279,.int .i64 x280,.int .i64 x281,.int .i64 x282,.int .i64 x283,.slice none 0 0,.slice none 0 0] 47,.mf b4 [(.string r_str4,.func (.func 18) #[pt b3] #[]),(.string r_str5,.func (.func 19) #[pt b3] #[]),(.string r_str6,.func (.func 20) #[pt b3] #[]),(.string r_str7,.func (.func 21) #[pt b3] #[]),(.string r_str8,.func (.func 22) #[pt b3] #[]),(.string r_str9,.func (.func 23) #[pt b3] #[]),(.string r_str10,.func (.func 24) #[pt b3] #[]),(.string r_str11,.func (.func 25) #[pt b3] #[]),(.string r_str12,.func (.func 26) #[pt b3] #[]),(.string r_str13,.func (.func 27) #[pt b3] #[])],.own .str 9 v18 l19,.bld b31 v277 (sb l278),.own .str 9 v537 x535,.own (.int .u8) 5 v804 x802.1,.own (.int .i64) 3 v812 x810.1,.own (.int .u8) 5 (.slice p840 n841 c842) x833.1.1.1,.own (.int .u8) 5 (.slice p843 n844 c845) x833.1.1.2.1,.own (.int .i64) 3 (.slice p846 n847 c848) x833.1.1.2.2,.blk b839 #[(.slice p840 n841 c842),(.slice p843 n844 c845),(.slice p846 n847 c848)] 101,.own .str 9 v870 ([x864,x866,x868])]:=H
                       obtain ⟨x871,E872,E⟩:=bind_some E
                       refine wa_one (i:=10) (l':=(tf 11 12)) z z z (by kernel_rfl) (y_callL r_en_45 z ((play_said.calls (H.own 13 z (own_rd (H.get 13 z))) E872).mono ?_))
                       rintro _ w ⟨rfl,K⟩
                       have H:=H.app K
                       refine ⟨_,z,⟨fun _=>H.sel [0,1,2,3,4,5,6,7,8,9,10,11,12] z z,(wt 11 (tf 12 12) z z z (by kernel_rfl) (H.sel [0,1,2,3,4,5,6,7,8,9,10,11,12] z z) (fun w H=>(sg (.string x871) z)) (wa_done (by kernel_rfl) (n_thn (wc_ret ?_))))⟩⟩
                       exact ⟨.inl z,.string x871,tk0 z ⟨resM z (rv_t rv_nil) z,k528,_,_,_,Nat.le_refl _,E,z,H.sel [0,1,2,3,4,5,6] z z⟩⟩
                   · refine (y_allocS e_zr_101 H (fun b839 w H=>⟨fun _=>⟨_,_,H.sel [0,1,2,3,4,5,6,7,8] z z⟩,(wa_one (i:=14) (l':=#[true,true,true,true,true,true,true,true,true,true,true,true,true,true,true,false,false,false,true,false,false]) z z z (by kernel_rfl) (y_callL r_en_44 z ((codec_Desk_Decode.calls (H.get 0 z) (H.ownX 7 0 z z z (own_rd (H.get 7 z))) (H.ownX 8 0 z z z (own_rd (H.get 8 z))) E834).mono ?_)))⟩))
                     rintro _ w ⟨m838,v835,v836,v837,rfl,K⟩
                     have H:=H.appX 0 z K
                     refine ⟨_,z,⟨fun _=>⟨_,_,H.sel [0,1,2,3,4,5,6,7,8] z z⟩,?_⟩⟩
                     have H : St (Rs.env ).fp w0 _ [.gd b2 m838 x833.2,.lv,.blk b3 #[pt b2,.int .i64 x279,.int .i64 x280,.int .i64 x281,.int .i64 x282,.int .i64 x283,.slice none 0 0,.slice none 0 0] 47,.mf b4 [(.string r_str4,.func (.func 18) #[pt b3] #[]),(.string r_str5,.func (.func 19) #[pt b3] #[]),(.string r_str6,.func (.func 20) #[pt b3] #[]),(.string r_str7,.func (.func 21) #[pt b3] #[]),(.string r_str8,.func (.func 22) #[pt b3] #[]),(.string r_str9,.func (.func 23) #[pt b3] #[]),(.string r_str10,.func (.func 24) #[pt b3] #[]),(.string r_str11,.func (.func 25) #[pt b3] #[]),(.string r_str12,.func (.func 26) #[pt b3] #[]),(.string r_str13,.func (.func 27) #[pt b3] #[])],.own .str 9 v18 l19,.bld b31 v277 (sb l278),.own .str 9 v537 x535,.own (.int .u8) 5 v804 x802.1,.own (.int .i64) 3 v812 x810.1,.own (.int .u8) 5 v835 x833.1.1.1,.own (.int .u8) 5 v836 x833.1.1.2.1,.own (.int .i64) 3 v837 x833.1.1.2.2,.blk b839 #[.slice none 0 0,.slice none 0 0,.slice none 0 0] 101]:=H.sel [0,1,2,3,4,5,6,7,8,10,11,12,9] z z
                     refine wt 15 #[true,true,true,true,true,true,true,true,true,true,true,true,true,true,true,true,false,false,true,false,false] z z z (by kernel_rfl) (⟨_,_,H.sel [0,1,2,3,4,5,6,7,8] z z⟩) (fun w ⟨d',n',H⟩=>(r_move)) (wt 16 #[true,true,true,true,true,true,true,true,true,true,true,true,true,true,true,true,true,false,true,false,false] z z z (by kernel_rfl) (⟨_,_,H.sel [0,1,2,3,4,5,6,7,8] z z⟩) (fun w ⟨d',n',H⟩=>(r_extract z z)) (wt 17 (tf 19 21) z z z (by kernel_rfl) (⟨_,_,H.sel [0,1,2,3,4,5,6,7,8] z z⟩) (fun w ⟨d',n',H⟩=>(r_extract z z)) ?_))
                     have H : St (Rs.env ).fp w0 _ [.gd b2 m838 x833.2,.lv,.blk b3 #[pt b2,.int .i64 x279,.int .i64 x280,.int .i64 x281,.int .i64 x282,.int .i64 x283,.slice none 0 0,.slice none 0 0] 47,.mf b4 [(.string r_str4,.func (.func 18) #[pt b3] #[]),(.string r_str5,.func (.func 19) #[pt b3] #[]),(.string r_str6,.func (.func 20) #[pt b3] #[]),(.string r_str7,.func (.func 21) #[pt b3] #[]),(.string r_str8,.func (.func 22) #[pt b3] #[]),(.string r_str9,.func (.func 23) #[pt b3] #[]),(.string r_str10,.func (.func 24) #[pt b3] #[]),(.string r_str11,.func (.func 25) #[pt b3] #[]),(.string r_str12,.func (.func 26) #[pt b3] #[]),(.string r_str13,.func (.func 27) #[pt b3] #[])],.own .str 9 v18 l19,.bld b31 v277 (sb l278),.own .str 9 v537 x535,.own (.int .u8) 5 v804 x802.1,.own (.int .i64) 3 v812 x810.1,.own (.int .u8) 5 v835 x833.1.1.1,.own (.int .u8) 5 v836 x833.1.1.2.1,.own (.int .i64) 3 v837 x833.1.1.2.2,.blk b839 #[.slice none 0 0,.slice none 0 0,.slice none 0 0] 101]:=H
                     obtain ⟨p840,n841,c842,rfl⟩:=own_form (H.get 9 z)
                     obtain ⟨p843,n844,c845,rfl⟩:=own_form (H.get 10 z)
                     obtain ⟨p846,n847,c848,rfl⟩:=own_form (H.get 11 z)
                     refine wa_one (i:=19) (l':=(tf 20 21)) z z z (by kernel_rfl) (y_storeBA e_sz_101 H 12 z z z z z z (fun w H=>⟨fun _=>⟨_,_,H.sel [0,1,2,3,4,5,6,7,8] z z⟩,(wt 20 (tf 21 21) z z z (by kernel_rfl) ⟨_,_,H.sel [0,1,2,3,4,5,6,7,8] z z⟩ (fun w ⟨d',n',H⟩=>(sg (.int .u16 x833.1.2) z)) (wa_done (by kernel_rfl) (n_thn (wc_seq (rg (v_ z (mv (.int .u16 x833.1.2) z) (v_ z (r_neq z z) (nl ?_))))))))⟩))
                     refine wc_cond z (fun c852=>?_) (fun c852=>?_)
                     · have E:=iT c852 E
                       refine rg (v_ z (mv (.int .u16 x833.1.2) z) ?_)
                       obtain ⟨x853,E854,E⟩:=bind_some E
                       refine e_ z (y_callL r_en_39 z ((play_fail.calls (H.get 1 z) E854).mono ?_))
                       rintro _ w ⟨rfl,K⟩
                       have H:=H.appX 1 z K
                       refine ⟨_,z,(v_ z (sg (.string x853) z) (nl (wc_ret ?_)))⟩
                       exact (r_thn ⟨.inl z,.string x853,tk0 z ⟨resM z (rv_t rv_nil) z,k528,_,_,_,Nat.le_refl _,E,z,H.sel [0,1,2,3,4,5,6] z z⟩⟩)
                     · have E:=iF c852 E
                       refine wc_skip (n_thn (wc_seq (wc_drawnS (ds:=[]) e_mo H z z ?_)))
                       have H:=H.drew
                       refine wt 0 (tf 1 12) z z z (by kernel_rfl) H (fun w H=>(r_faddr r_fa_101_1 z)) (wt 1 (tf 2 12) z z z (by kernel_rfl) H (fun w H=>(r_load e_sc_22 z (blk_cell (H.get 12 z) z))) (wt 3 #[true,true,false,true,false,false,false,false,false,false,false,false] z z z (by kernel_rfl) H (fun w H=>(r_faddr r_fa_101_0 z)) (wt 4 #[true,true,false,true,true,false,false,false,false,false,false,false] z z z (by kernel_rfl) H (fun w H=>(r_load e_sc_22 z (blk_cell (H.get 12 z) z))) (wt 6 #[true,true,false,true,true,false,true,false,false,false,false,false] z z z (by kernel_rfl) H (fun w H=>(r_faddr r_fa_101_2 z)) (wt 7 #[true,true,false,true,true,false,true,true,false,false,false,false] z z z (by kernel_rfl) H (fun w H=>(r_load e_sc_45 z (blk_cell (H.get 12 z) z))) ?_)))))
                       obtain ⟨x864,E865,E⟩:=bind_some E
                       refine wa_one (i:=2) (l':=#[true,true,true,true,true,false,true,true,false,false,false,false]) z z z (by kernel_rfl) (y_callL r_en_43 z ((play_hex.calls (gd_gt (H.get 0 z)) (ol_gt (H.ownX 10 0 z z z (own_rd (H.get 10 z)))) E865).mono ?_))
                       rintro _ w ⟨rfl,K⟩
                       have H:=H.appG 0 z K
                       refine ⟨_,z,⟨fun _=>H.sel [0,1,2,3,4,5,6,7,8,9,10,11,12] z z,?_⟩⟩
                       obtain ⟨x866,E867,E⟩:=bind_some E
                       refine wa_one (i:=5) (l':=(tf 8 12)) z z z (by kernel_rfl) (y_callL r_en_43 z ((play_hex.calls (gd_gt (H.get 0 z)) (ol_gt (H.ownX 9 0 z z z (own_rd (H.get 9 z)))) E867).mono ?_))
                       rintro _ w ⟨rfl,K⟩
                       have H:=H.appG 0 z K
                       refine ⟨_,z,⟨fun _=>H.sel [0,1,2,3,4,5,6,7,8,9,10,11,12] z z,?_⟩⟩
                       obtain ⟨x868,E869,E⟩:=bind_some E
                       refine wa_one (i:=8) (l':=(tf 9 12)) z z z (by kernel_rfl) (y_callL r_en_46 z ((play_list.calls (H.get 1 z) (H.ownX 11 1 z z z (own_rd (H.get 11 z))) E869).mono ?_))
                       rintro _ w ⟨rfl,K⟩
                       have H:=H.appX 1 z K
                       refine ⟨_,z,⟨fun _=>H.sel [0,1,2,3,4,5,6,7,8,9,10,11,12] z z,(wa_one (i:=9) (l':=(tf 10 12)) z z z (by kernel_rfl) (y_bsL (e:=.str) (l:=[x864,x866,x868]) r_sl_50 H z (by decide) ⟨z,z,z,z,z,z,trivial⟩ (by decide) (fun v870 w H=>⟨fun _=>H.sel [0,1,2,3,4,5,6,7,8,9,10,11,12] z z,?_⟩)))⟩⟩
                       have H : St (Rs.env ).fp w0 _ [.gd b2 m838 x833.2,.lv,.blk b3 #[pt b2,.int .i64 x279,.int .i64 x280,.int .i64 x281,.int .i64 x282,.int .i64 x283,.slice none 0 0,.slice none 0 0] 47,.mf b4 [(.string r_str4,.func (.func 18) #[pt b3] #[]),(.string r_str5,.func (.func 19) #[pt b3] #[]),(.string r_str6,.func (.func 20) #[pt b3] #[]),(.string r_str7,.func (.func 21) #[pt b3] #[]),(.string r_str8,.func (.func 22) #[pt b3] #[]),(.string r_str9,.func (.func 23) #[pt b3] #[]),(.string r_str10,.func (.func 24) #[pt b3] #[]),(.string r_str11,.func (.func 25) #[pt b3] #[]),(.string r_str12,.func (.func 26) #[pt b3] #[]),(.string r_str13,.func (.func 27) #[pt b3] #[])],.own .str 9 v18 l19,.bld b31 v277 (sb l278),.own .str 9 v537 x535,.own (.int .u8) 5 v804 x802.1,.own (.int .i64) 3 v812 x810.1,.own (.int .u8) 5 (.slice p840 n841 c842) x833.1.1.1,.own (.int .u8) 5 (.slice p843 n844 c845) x833.1.1.2.1,.own (.int .i64) 3 (.slice p846 n847 c848) x833.1.1.2.2,.blk b839 #[(.slice p840 n841 c842),(.slice p843 n844 c845),(.slice p846 n847 c848)] 101,.own .str 9 v870 ([x864,x866,x868])]:=H
                       obtain ⟨x871,E872,E⟩:=bind_some E
                       refine wa_one (i:=10) (l':=(tf 11 12)) z z z (by kernel_rfl) (y_callL r_en_45 z ((play_said.calls (H.own 13 z (own_rd (H.get 13 z))) E872).mono ?_))
                       rintro _ w ⟨rfl,K⟩
                       have H:=H.app K
                       refine ⟨_,z,⟨fun _=>H.sel [0,1,2,3,4,5,6,7,8,9,10,11,12] z z,(wt 11 (tf 12 12) z z z (by kernel_rfl) (H.sel [0,1,2,3,4,5,6,7,8,9,10,11,12] z z) (fun w H=>(sg (.string x871) z)) (wa_done (by kernel_rfl) (n_thn (wc_ret ?_))))⟩⟩
                       exact ⟨.inl z,.string x871,tk0 z ⟨resM z (rv_t rv_nil) z,k528,_,_,_,Nat.le_refl _,E,z,H.sel [0,1,2,3,4,5,6] z z⟩⟩
           rintro _ w ⟨k796,l794,x795,m793,hk797,E,hv_,H⟩
           have hv_:=hv_.symm
           subst hv_
           unfold play_Run.j4 at E
           refine v_ z (sg (.string x795) z) (nl (wc_region (v_ z (mv (.string x795) z) ?_)))
           obtain ⟨g873,E⟩:=grd_some E
           refine v_ z (r_cat z z g873) ?_
           obtain ⟨g875,E⟩:=grd_some E
           refine e_ z (y_bw H 5 z r_en_30 z z g875 (fun v874 w H=>(wl_nil (n_bk (n_thn (wc_region (v_ z (r_add z z) (v_ z (mv (.int .i64 (i64.wrap (x284 + 1))) z) (wl_nil ?_)))))))))
           exact ⟨k796,by omega,_,_,_,_,_,_,_,_,_,_,_,by omega,E,upds_eq ⟨z,z,z,z,z,z,z,trivial⟩,H.sel [0,1,2,3,4,5] z z⟩
         · have E:=iF c709 E
           rcases Bool.eq_false_or_eq_true (decide ((at_ ByteArray.empty x535 0) = r_str8)) with c876 | c876
           · have E:=iT c876 E
             cases E
           · have E:=iF c876 E
             rcases Bool.eq_false_or_eq_true (decide ((at_ ByteArray.empty x535 0) = r_str9)) with c882 | c882
             · have E:=iT c882 E
               cases E
             · have E:=iF c882 E
               rcases Bool.eq_false_or_eq_true (decide ((at_ ByteArray.empty x535 0) = r_str10)) with c888 | c888
               · have E:=iT c888 E
                 cases E
               · have E:=iF c888 E
                 rcases Bool.eq_false_or_eq_true (decide ((at_ ByteArray.empty x535 0) = r_str11)) with c894 | c894
                 · have E:=iT c894 E
                   cases E
                 · have E:=iF c894 E
                   rcases Bool.eq_false_or_eq_true (decide ((at_ ByteArray.empty x535 0) = r_str12)) with c900 | c900
                   · have E:=iT c900 E
                     cases E
                   · have E:=iF c900 E
                     rcases Bool.eq_false_or_eq_true (decide ((at_ ByteArray.empty x535 0) = r_str13)) with c906 | c906
                     · have E:=iT c906 E
                       cases E
                     · have E:=iF c906 E
                       refine v_ z (r_lkS Tryz.underlying9 Tryz.underlying49 r_zf_48 (H.get 3 z) z z z (by simp only [List.nil_append,List.cons_append,lkS,c540,c597,c648,c709,c876,c882,c888,c894,c900,c906,cond_true,cond_false])) (v_ z (sg (.nilFunc) z) (nl (rg (v_ z (mv (.nilFunc) z) (v_ z (r_fneq0 Tryz.underlying48 z z z) (nl (wc_condF z (wc_skip (n_thn (wc_region (v_ z (mv (.string r_str16) z) ?_)))))))))))
                       obtain ⟨g912,E⟩:=grd_some E
                       refine v_ z (r_cat z z g912) ?_
                       obtain ⟨g914,E⟩:=grd_some E
                       refine e_ z (y_bw H 5 z r_en_30 z z g914 (fun v913 w H=>(wl_nil (n_bk (n_thn (wc_region (v_ z (r_add z z) (v_ z (mv (.int .i64 (i64.wrap (x284 + 1))) z) (wl_nil ?_)))))))))
                       exact ⟨k528,Nat.lt_succ_self _,_,_,_,_,_,_,_,_,_,_,_,Nat.le_of_succ_le hk529,E,upds_eq ⟨z,z,z,z,z,z,z,trivial⟩,H.sel [0,1,2,3,4,5] z z⟩
 · have E:=iF c532 E
   refine wc_exit (x_thn (x_thn (x_bk (n_thn (rg (e_ z (y_bt H 5 z r_en_31 z (fun w H=>(v_ z (sg (.string l278) z) (nl (wc_ret ?_)))))))))))
   cases E
   have H:=H.less 0 z gd_gt (fun _ h=>.inr (.inl h))
   exact ⟨.inl z,_,tk0 z ⟨resN z (rv_t rv_nil),z,H.sub2 0 1 z z z⟩⟩
theorem l_en_11 : En Tryz.prog 11:=⟨_,_,Tryz.func11,by kernel_rfl,z⟩
theorem l_en_59 : En Tryz.prog 59:=⟨_,_,Tryz.func59,by kernel_rfl,z⟩
theorem l_en_34 : En Tryz.prog 34:=⟨_,_,Tryz.func34,by kernel_rfl,z⟩
theorem l_en_163 : En Tryz.prog 163:=⟨_,_,Tryz.func163,by kernel_rfl,z⟩
theorem l_en_162 : En Tryz.prog 162:=⟨_,_,Tryz.func162,by kernel_rfl,z⟩
theorem l_en_99 : En Tryz.prog 99:=⟨_,_,Tryz.func99,by kernel_rfl,z⟩
theorem l_en_98 : En Tryz.prog 98:=⟨_,_,Tryz.func98,by kernel_rfl,z⟩
theorem l_en_16 : En Tryz.prog 16:=⟨_,_,Tryz.func16,by kernel_rfl,z⟩
theorem l_en_60 : En Tryz.prog 60:=⟨_,_,Tryz.func60,by kernel_rfl,z⟩
theorem l_en_62 : En Tryz.prog 62:=⟨_,_,Tryz.func62,by kernel_rfl,z⟩
theorem l_en_14 : En Tryz.prog 14:=⟨_,_,Tryz.func14,by kernel_rfl,z⟩
theorem l_en_61 : En Tryz.prog 61:=⟨_,_,Tryz.func61,by kernel_rfl,z⟩
theorem l_en_33 : En Tryz.prog 33:=⟨_,_,Tryz.func33,by kernel_rfl,z⟩
theorem l_en_63 : En Tryz.prog 63:=⟨_,_,Tryz.func63,by kernel_rfl,z⟩
theorem l_en_100 : En Tryz.prog 100:=⟨_,_,Tryz.func100,by kernel_rfl,z⟩
theorem l_en_12 : En Tryz.prog 12:=⟨_,_,Tryz.func12,by kernel_rfl,z⟩
theorem l_en_64 : En Tryz.prog 64:=⟨_,_,Tryz.func64,by kernel_rfl,z⟩
theorem l_en_36 : En Tryz.prog 36:=⟨_,_,Tryz.func36,by kernel_rfl,z⟩
theorem l_en_35 : En Tryz.prog 35:=⟨_,_,Tryz.func35,by kernel_rfl,z⟩
theorem l_en_15 : En Tryz.prog 15:=⟨_,_,Tryz.func15,by kernel_rfl,z⟩
theorem l_en_13 : En Tryz.prog 13:=⟨_,_,Tryz.func13,by kernel_rfl,z⟩
def l_str4 : ByteArray:=⟨#[99,111,100,101,32,52,32,50,32,48,10,101,110,99,111,100,101,32,48,49,48,48,10]⟩
theorem l_en_9 : En Tryz.prog 9:=⟨_,_,Tryz.func9,by kernel_rfl,z⟩
def l_str5 : ByteArray:=⟨#[111,107,10,48,50,48,51,48,49,48,48,10]⟩
def l_str6 : ByteArray:=⟨#[99,111,100,101,32,52,32,50,32,48,10,100,101,99,111,100,101,32,48,50,48,55,48,49,48,48,10,99,111,100,101,32,52,32,52,32,48,10,120,10]⟩
def l_str7 : ByteArray:=⟨#[111,107,10,48,49,48,48,32,48,50,48,51,48,49,48,48,32,49,10,101,114,114,111,114,32,49,48,10,98,97,100,10]⟩
theorem l_en_4 : En Tryz.prog 4:=⟨_,_,Tryz.func4,by kernel_rfl,z⟩
theorem l_en_5 : En Tryz.prog 5:=⟨_,_,Tryz.func5,by kernel_rfl,z⟩
theorem l_en_6 : En Tryz.prog 6:=⟨_,_,Tryz.func6,by kernel_rfl,z⟩
theorem l_en_7 : En Tryz.prog 7:=⟨_,_,Tryz.func7,by kernel_rfl,z⟩
theorem l_en_8 : En Tryz.prog 8:=⟨_,_,Tryz.func8,by kernel_rfl,z⟩
theorem l_en_10 : En Tryz.prog 10:=⟨_,_,Tryz.func10,by kernel_rfl,z⟩
def l_str8 : ByteArray:=⟨#[112,105,99,107,32,49,32,49,10,101,110,99,111,100,101,32]⟩
def l_str9 : ByteArray:=⟨#[10,100,101,99,111,100,101,32]⟩
def l_str10 : ByteArray:=⟨#[10]⟩
def l_str11 : ByteArray:=⟨#[111,107,10,111,107,10]⟩
def l_str12 : ByteArray:=⟨#[32]⟩
def l_str13 : ByteArray:=⟨#[32,45,10]⟩
end Go.Proofs.YtkndgkbgbmhjoaaGreatDoor.Gw
