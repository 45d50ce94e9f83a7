/- The card of the law that what a desk encodes is read back from what it tells: a part of its proof. The conditions are those of the statement. -/
import Derived.Test.YtkndgkbgbmhjoaaGreatDoorQ3
import Derived.Test.YtkndgkbgbmhjoaaGreatDoorQ21
import Derived.Test.YtkndgkbgbmhjoaaGreatDoorProg
import Derived.Test.YtkndgkbgbmhjoaaGreatDoorQ6
import Derived.Test.YtkndgkbgbmhjoaaGreatDoorQ23
namespace Go.Proofs.YtkndgkbgbmhjoaaGreatDoor.Gw
open Go Go.RowKit
set_option linter.unusedVariables false
set_option linter.unusedSimpArgs false
set_option linter.unusedSectionVars false
variable [LibO]
set_option linter.unnecessarySimpa false
set_option maxRecDepth 100000
set_option maxHeartbeats 4000000
open Go.IntKind (i8 i16 i32 i64 u8 u16 u32 u64)
theorem P_sl_22 : Sl Tryz.prog 22 5 1 1 (.int .u8 0):=sl_of Tryz.underlying22 (by kernel_rfl) z (by decide)
def P_str0 : ByteArray:=⟨#[]⟩
def P_str1 : ByteArray:=⟨#[48,49,50,51,52,53,54,55,56,57,97,98,99,100,101,102,103,104,105,106,107,108,109,110,111,112,113,114,115,116,117,118,119,120,121,122]⟩
def P_str2 : ByteArray:=⟨#[48,48,48,49,48,50,48,51,48,52,48,53,48,54,48,55,48,56,48,57,49,48,49,49,49,50,49,51,49,52,49,53,49,54,49,55,49,56,49,57,50,48,50,49,50,50,50,51,50,52,50,53,50,54,50,55,50,56,50,57,51,48,51,49,51,50,51,51,51,52,51,53,51,54,51,55,51,56,51,57,52,48,52,49,52,50,52,51,52,52,52,53,52,54,52,55,52,56,52,57,53,48,53,49,53,50,53,51,53,52,53,53,53,54,53,55,53,56,53,57,54,48,54,49,54,50,54,51,54,52,54,53,54,54,54,55,54,56,54,57,55,48,55,49,55,50,55,51,55,52,55,53,55,54,55,55,55,56,55,57,56,48,56,49,56,50,56,51,56,52,56,53,56,54,56,55,56,56,56,57,57,48,57,49,57,50,57,51,57,52,57,53,57,54,57,55,57,56,57,57]⟩
theorem P_ul_22 : ((#[22] : Array TypeId)[0]?).bind Tryz.prog.underlying = some (.slice 5):=bind_ul Tryz.underlying22
theorem P_zrr_308 : ZrR Tryz.prog 308 65:=by show _ = _; kernel_rfl
theorem P_en_213 : En Tryz.prog 213:=⟨_,_,Tryz.func213,by kernel_rfl,z⟩
theorem P_en_214 : En Tryz.prog 214:=⟨_,_,Tryz.func214,by kernel_rfl,z⟩
theorem P_ar_308 : Ar Tryz.prog 308 65 1:=⟨_,Tryz.underlying308,by kernel_rfl⟩
theorem P_sz_5 : Sz Tryz.prog 5 1:=by show _ = _; kernel_rfl
theorem P_en_158 : En Tryz.prog 158:=⟨_,_,Tryz.func158,by kernel_rfl,z⟩
theorem P_en_161 : En Tryz.prog 161:=⟨_,_,Tryz.func161,by kernel_rfl,z⟩
theorem P_en_97 : En Tryz.prog 97:=⟨_,_,Tryz.func97,by kernel_rfl,z⟩
def P_str4 : ByteArray:=⟨#[45]⟩
theorem P_zr_55 : Zr Tryz.prog 55 #[.pointer none,.slice none 0 0]:=⟨.agg #[.pointer none,.slice none 0 0],by kernel_rfl,z⟩
theorem P_sc_5 : Sc Tryz.prog 5:=⟨_,Tryz.underlying5,z⟩
theorem P_en_72 : En Tryz.prog 72:=⟨_,_,Tryz.func72,by kernel_rfl,z⟩
theorem P_en_30 : En Tryz.prog 30:=⟨_,_,Tryz.func30,by kernel_rfl,z⟩
theorem P_en_31 : En Tryz.prog 31:=⟨_,_,Tryz.func31,by kernel_rfl,z⟩
theorem P_ul_45 : ((#[45] : Array TypeId)[0]?).bind Tryz.prog.underlying = some (.slice 3):=bind_ul Tryz.underlying45
theorem P_sl_45 : Sl Tryz.prog 45 3 1 8 (.int .i64 0):=sl_of Tryz.underlying45 (by kernel_rfl) z (by decide)
theorem P_sc_3 : Sc Tryz.prog 3:=⟨_,Tryz.underlying3,z⟩
theorem P_en_32 : En Tryz.prog 32:=⟨_,_,Tryz.func32,by kernel_rfl,z⟩
theorem P_sl_50 : Sl Tryz.prog 50 9 1 16 (.string ByteArray.empty):=sl_of Tryz.underlying50 (by kernel_rfl) z (by decide)
theorem P_en_77 : En Tryz.prog 77:=⟨_,_,Tryz.func77,by kernel_rfl,z⟩
def P_str5 : ByteArray:=⟨#[32]⟩
def P_str6 : ByteArray:=⟨#[101,114,114,111,114]⟩
theorem P_en_45 : En Tryz.prog 45:=⟨_,_,Tryz.func45,by kernel_rfl,z⟩
theorem P_ul_50 : ((#[50] : Array TypeId)[0]?).bind Tryz.prog.underlying = some (.slice 9):=bind_ul Tryz.underlying50
theorem P_sc_9 : Sc Tryz.prog 9:=⟨_,Tryz.underlying9,z⟩
theorem P_cvl_9 : ((#[9] : Array TypeId)[0]?).bind Tryz.prog.underlying = some .string:=by show Option.bind (some 9) _ = _; rw [Option.bind_some]; exact Tryz.underlying9
def P_str7 : ByteArray:=⟨#[48,49,50,51,52,53,54,55,56,57]⟩
theorem P_en_65 : En Tryz.prog 65:=⟨_,_,Tryz.func65,by kernel_rfl,z⟩
theorem P_en_66 : En Tryz.prog 66:=⟨_,_,Tryz.func66,by kernel_rfl,z⟩
theorem P_en_67 : En Tryz.prog 67:=⟨_,_,Tryz.func67,by kernel_rfl,z⟩
theorem P_mo : Tryz.prog.follows .mixedOrders = true:=by kernel_rfl
theorem P_fa_24_0 : Fa Tryz.prog 24 0 0:=⟨_,_,Tryz.underlying24,z,z,0,by kernel_rfl⟩
theorem P_fa_24_1 : Fa Tryz.prog 24 1 1:=⟨_,_,Tryz.underlying24,z,z,0,by kernel_rfl⟩
theorem P_fa_24_2 : Fa Tryz.prog 24 2 2:=⟨_,_,Tryz.underlying24,z,z,0,by kernel_rfl⟩
def P_str8 : ByteArray:=⟨#[99,111,100,101,32]⟩
def P_str9 : ByteArray:=⟨#[10]⟩
def P_str10 : ByteArray:=⟨#[48,49,50,51,52,53,54,55,56,57,97,98,99,100,101,102]⟩
def internal_strconv_small.f (a0 : Int) : Option (ByteArray):=bif decide (a0 < 10) then (grd (decide ((0 : Int) ≤ a0 ∧ a0 ≤ i64.wrap (a0 + 1) ∧ i64.wrap (a0 + 1) ≤ (P_str1.size : Int))) (some (ext P_str1 a0 (i64.wrap (a0 + 1))))) else (grd (decide ((0 : Int) ≤ i64.wrap (a0 * 2) ∧ i64.wrap (a0 * 2) ≤ i64.wrap ((i64.wrap (a0 * 2)) + 2) ∧ i64.wrap ((i64.wrap (a0 * 2)) + 2) ≤ (P_str2.size : Int))) (some (ext P_str2 (i64.wrap (a0 * 2)) (i64.wrap ((i64.wrap (a0 * 2)) + 2)))))
theorem internal_strconv_small.calls {w0 : World} {a0 : Int} {r : ByteArray}  (E : internal_strconv_small.f a0 = some r) :
   Calls Tryz.prog 158 #[.int .i64 a0] w0 fun e w'=>e = .returned (.string r) ∧ St no w0 w' []:=by
 have H:=St.nil no w0
 unfold internal_strconv_small.f at E
 refine calls_of_wc (N:=15) (args:=[.int .i64 a0]) Tryz.func158 z z (by simp) ?_
 refine rg (v_ z (sg (.string P_str0) z) (nl (wc_seq (rg (v_ z (mv (.int .i64 a0) z) (v_ z (r_lss z z) (nl ?_)))))))
 refine wc_cond z (fun c1=>?_) (fun c1=>?_)
 · have E:=iT c1 E
   refine rg (v_ z (mv (.int .i64 a0) z) (v_ z (mv (.int .i64 a0) z) (v_ z (r_add z z) ?_)))
   obtain ⟨⟨g2,g3,g4⟩,E⟩:=grd_some E
   refine v_ z (r_sslc Tryz.underlying9 z z z g2 g3 g4) (v_ z (sg (.string (ext P_str1 a0 (i64.wrap (a0 + 1)))) z) (nl (wc_ret ?_)))
   cases E
   exact (r_thn ⟨.inl z,_,tk0 z ⟨resN z (rv_t rv_nil),z,H.sub0⟩⟩)
 · have E:=iF c1 E
   refine wc_skip (n_thn (rg (v_ z (mv (.int .i64 a0) z) (v_ z (r_mul z z) (v_ z (mv (.int .i64 a0) z) (v_ z (r_mul z z) (v_ z (r_add z z) ?_)))))))
   obtain ⟨⟨g5,g6,g7⟩,E⟩:=grd_some E
   refine v_ z (r_sslc Tryz.underlying9 z z z g5 g6 g7) (v_ z (sg (.string (ext P_str2 (i64.wrap (a0 * 2)) (i64.wrap ((i64.wrap (a0 * 2)) + 2)))) z) (nl (wc_ret ?_)))
   cases E
   exact ⟨.inl z,_,tk0 z ⟨resN z (rv_t rv_nil),z,H.sub0⟩⟩
def internal_strconv_isPowerOfTwo.f (a0 : Int) : Option (Bool):=some (decide (bits .and .i64 a0 (i64.wrap (a0 - 1)) = 0))
theorem internal_strconv_isPowerOfTwo.calls {w0 : World} {a0 : Int} {r : Bool}  (E : internal_strconv_isPowerOfTwo.f a0 = some r) :
   Calls Tryz.prog 213 #[.int .i64 a0] w0 fun e w'=>e = .returned (.bool r) ∧ St no w0 w' []:=by
 have H:=St.nil no w0
 unfold internal_strconv_isPowerOfTwo.f at E
 refine calls_of_wc (N:=8) (args:=[.int .i64 a0]) Tryz.func213 z z (by simp) ?_
 refine rg (v_ z (sg (.bool false) z) (nl (rg (v_ z (mv (.int .i64 a0) z) (v_ z (mv (.int .i64 a0) z) (v_ z (r_sub z z) (v_ z (r_and z z) (v_ z (r_eql z z) (v_ z (sg (.bool (decide (bits .and .i64 a0 (i64.wrap (a0 - 1)) = 0))) z) (nl (wc_ret ?_)))))))))))
 cases E
 exact ⟨.inl z,_,tk0 z ⟨resN z (rv_t rv_nil),z,H.sub0⟩⟩
def internal_strconv_FormatInt.j0 (k : Nat) (a0 : Int) (x31 : Bool) : Option (ByteArray):=bif x31 then ((internal_strconv_small.f a0).bind fun x37=>some x37) else (none)
def internal_strconv_FormatInt.j1 (l0r : Int → Int → Int → List Int → Int → Int → Option (ByteArray)) (l1r : Int → Int → List Int → Int → Int → Option (ByteArray)) (k : Nat) (a0 : Int) (a1 : Int) (x146 : Int) : Option (ByteArray):=(internal_strconv_isPowerOfTwo.f a1).bind fun x225=>bif x225 then ((math_bits_TrailingZeros.f (u64.wrap a1)).bind fun x228=>l0r a0 a1 x228 (List.replicate 65 (0 : Int)) x146 65) else (l1r a0 a1 (List.replicate 65 (0 : Int)) x146 65)
def internal_strconv_FormatInt.j3 (k : Nat) (l297 : List Int) (x298 : Int) : Option (ByteArray):=grd (decide ((0 : Int) ≤ x298 ∧ x298 < 65)) (some (strOfNums (l297.drop x298.toNat)))
def internal_strconv_FormatInt.j2 (k : Nat) (a0 : Int) (l220 : List Int) (x221 : Int) : Option (ByteArray):=bif decide (a0 < 0) then (grd (decide ((0 : Int) ≤ i64.wrap (x221 - 1) ∧ i64.wrap (x221 - 1) < 65)) (internal_strconv_FormatInt.j3 k (l220.set (0 + (i64.wrap (x221 - 1)).toNat) 45) (i64.wrap (x221 - 1)))) else (internal_strconv_FormatInt.j3 k l220 x221)
mutual
def internal_strconv_FormatInt.l0 : Nat → Int → Int → Int → List Int → Int → Int → Option (ByteArray)
 | 0,_,_,_,_,_,_=>none
 | k + 1,a0,a1,x228,l237,x238,x239=>bif decide (u64.wrap a1 ≤ x238) then (grd (decide ((0 : Int) ≤ bits .and .u64 x238 (u64.wrap ((u64.wrap a1) - 1)) ∧ bits .and .u64 x238 (u64.wrap ((u64.wrap a1) - 1)) < (P_str1.size : Int))) (grd (decide ((0 : Int) ≤ i64.wrap (x239 - 1) ∧ i64.wrap (x239 - 1) < 65)) (grd (decide (0 ≤ u64.wrap x228)) (internal_strconv_FormatInt.l0 k a0 a1 x228 (l237.set (0 + (i64.wrap (x239 - 1)).toNat) (sat P_str1 (bits .and .u64 x238 (u64.wrap ((u64.wrap a1) - 1))))) (Int.fdiv x238 (2 ^ (min (u64.wrap x228).toNat 64))) (i64.wrap (x239 - 1)))))) else (grd (decide ((0 : Int) ≤ x238 ∧ x238 < (P_str1.size : Int))) (grd (decide ((0 : Int) ≤ i64.wrap (x239 - 1) ∧ i64.wrap (x239 - 1) < 65)) (internal_strconv_FormatInt.j2 k a0 (l237.set (0 + (i64.wrap (x239 - 1)).toNat) (sat P_str1 x238)) (i64.wrap (x239 - 1)))))
def internal_strconv_FormatInt.l1 : Nat → Int → Int → List Int → Int → Int → Option (ByteArray)
 | 0,_,_,_,_,_=>none
 | k + 1,a0,a1,l268,x269,x270=>bif decide (u64.wrap a1 ≤ x269) then (grd (decide (u64.wrap a1 ≠ 0)) (grd (decide ((0 : Int) ≤ u64.wrap (x269 - (u64.wrap ((u64.wrap (Int.tdiv x269 (u64.wrap a1))) * (u64.wrap a1)))) ∧ u64.wrap (x269 - (u64.wrap ((u64.wrap (Int.tdiv x269 (u64.wrap a1))) * (u64.wrap a1)))) < (P_str1.size : Int))) (grd (decide ((0 : Int) ≤ i64.wrap (x270 - 1) ∧ i64.wrap (x270 - 1) < 65)) (internal_strconv_FormatInt.l1 k a0 a1 (l268.set (0 + (i64.wrap (x270 - 1)).toNat) (sat P_str1 (u64.wrap (x269 - (u64.wrap ((u64.wrap (Int.tdiv x269 (u64.wrap a1))) * (u64.wrap a1))))))) (u64.wrap (Int.tdiv x269 (u64.wrap a1))) (i64.wrap (x270 - 1)))))) else (grd (decide ((0 : Int) ≤ x269 ∧ x269 < (P_str1.size : Int))) (grd (decide ((0 : Int) ≤ i64.wrap (x270 - 1) ∧ i64.wrap (x270 - 1) < 65)) (internal_strconv_FormatInt.j2 k a0 (l268.set (0 + (i64.wrap (x270 - 1)).toNat) (sat P_str1 x269)) (i64.wrap (x270 - 1)))))
end
def internal_strconv_FormatInt.f (k : Nat) (a0 : Int) (a1 : Int) : Option (ByteArray):=bif decide (a1 = 10) then (bif decide (0 ≤ a0) then (internal_strconv_FormatInt.j0 k a0 (decide (a0 < 100))) else (internal_strconv_FormatInt.j0 k a0 false)) else (bif decide (a1 < 2) then (none) else (bif decide (36 < a1) then (none) else (bif decide (a0 < 0) then (internal_strconv_FormatInt.j1 (internal_strconv_FormatInt.l0 k) (internal_strconv_FormatInt.l1 k) k a0 a1 (u64.wrap (-(u64.wrap a0)))) else (internal_strconv_FormatInt.j1 (internal_strconv_FormatInt.l0 k) (internal_strconv_FormatInt.l1 k) k a0 a1 (u64.wrap a0)))))
theorem internal_strconv_FormatInt.calls {w0 : World} {k : Nat} {a0 : Int} {a1 : Int} {r : ByteArray} (hf : (Rs.gt ).inv w0) (E : internal_strconv_FormatInt.f k a0 a1 = some r) :
   Calls Tryz.prog 97 #[.int .i64 a0,.int .i64 a1] w0 fun e w'=>e = .returned (.string r) ∧ St (Rs.gt ).fp w0 w' [.gt]:=by
 have H:=St.start hf
 unfold internal_strconv_FormatInt.f at E
 refine calls_of_wc (N:=54) (args:=[.int .i64 a0,.int .i64 a1]) Tryz.func97 z z (by simp) ?_
 refine rg (v_ z (sg (.string P_str0) z) (nl (wc_seq (rg (v_ z (mv (.int .i64 a1) z) (v_ z (r_eql z z) (nl ?_)))))))
 refine wc_cond z (fun c22=>?_) (fun c22=>?_)
 · have E:=iT c22 E
   refine wc_seq ?_
   refine wc_seqJ (fun t w=>∃ (k33 : Nat) (x31 : Bool) (t32 : Fr),k33 ≤ k ∧ internal_strconv_FormatInt.j0 k33 a0 x31 = some r ∧ t = upds t32 [(0,.int .i64 a0),(1,.int .i64 a1),(4,.string P_str0),(17,.bool x31),(1000000,undef)] ∧ St (Rs.gt ).fp w0 w [.gt]) ?_ ?_
   · refine wc_region (v_ z (mv (.int .i64 a0) z) (v_ z (r_leq z z) (v_ z (mv (.bool (decide (0 ≤ a0))) z) ?_)))
     rcases Bool.eq_false_or_eq_true (decide (0 ≤ a0)) with c35 | c35
     · have E:=iT c35 E
       refine on_ c35 z z (mv (.int .i64 a0) z) (on_ c35 z z (r_lss z z) (v_ z (pT (.bool (decide (a0 < 100))) z z c35) (wl_nil ?_)))
       exact ⟨k,_,_,Nat.le_refl _,E,upds_eq ⟨z,z,z,z,z,trivial⟩,H⟩
     · have E:=iF c35 E
       refine off_ c35 z z z (off_ c35 z z z (v_ z (pF (.bool false) z z c35) (wl_nil ?_)))
       exact ⟨k,_,_,Nat.le_refl _,E,upds_eq ⟨z,z,z,z,z,trivial⟩,H⟩
   rintro t w ⟨k33,x31,t32,hk34,E,rfl,H⟩
   unfold internal_strconv_FormatInt.j0 at E
   refine wc_cond z (fun c36=>?_) (fun c36=>?_)
   · have E:=iT c36 E
     refine rg (v_ z (mv (.int .i64 a0) z) ?_)
     obtain ⟨x37,E38,E⟩:=bind_some E
     refine e_ z (y_callL P_en_158 z ((internal_strconv_small.calls E38).mono ?_))
     rintro _ w ⟨rfl,K⟩
     have H:=H.app K
     refine ⟨_,z,(v_ z (sg (.string x37) z) (nl (wc_ret ?_)))⟩
     cases E
     exact (r_thn (r_thn ⟨.inl z,_,tk0 z ⟨resN z (rv_t rv_nil),z,H.sub1 0 z⟩⟩))
   · have E:=iF c36 E
     cases E
 · have E:=iF c22 E
   refine wc_skip (n_thn (rg (v_ z (mv (.int .i64 a0) z) (v_ z (r_conv z Tryz.underlying2 Tryz.underlying261) (v_ z (mv (.int .i64 a1) z) (v_ z (mv (.int .i64 a0) z) (v_ z (r_lss z z) (e_ z (y_in 102 [.slice none 0 0,.int .u64 (u64.wrap a0),.int .i64 a1,.bool (decide (a0 < 0)),.bool false] P_en_161 Tryz.func161 z z z z (rg (v_ z (sg (.slice none 0 0) z) (v_ z (sg (.string P_str0) z) (nl (wc_seq (rg (v_ z (mv (.int .i64 a1) z) (v_ z (r_lss z z) (v_ z (mv (.bool (decide (a1 < 2))) z) ?_))))))))))))))))))
   rcases Bool.eq_false_or_eq_true (decide (a1 < 2)) with c141 | c141
   · have E:=iT c141 E
     refine off_ c141 z z z (off_ c141 z z z (v_ z (pT (.bool true) z z c141) (v_ z (mv (.bool true) z) (off_ z z z z (off_ z z z z (v_ z (pT (.bool true) z z z) (nl (wc_condT z (wc_region ?_)))))))))
     cases E
   · have E:=iF c141 E
     refine on_ c141 z z (mv (.int .i64 a1) z) (on_ c141 z z (r_eql z z) (v_ z (pF (.bool (decide (a1 = 10))) z z c141) (v_ z (mv (.bool (decide (a1 = 10))) z) (on_ c22 z z (mv (.int .i64 a1) z) (on_ c22 z z (r_gtr z z) (v_ z (pF (.bool (decide (36 < a1))) z z c22) (nl ?_)))))))
     refine wc_cond z (fun c142=>?_) (fun c142=>?_)
     · have E:=iT c142 E
       refine wc_region ?_
       cases E
     · have E:=iF c142 E
       refine wc_skip (n_thn (rg (e_ z (y_allocR (n:=65) P_zrr_308 H (fun b143 w H=>(nl (rg (v_ z (sg (.int .i64 65) z) (nl ?_)))))))))
       refine wc_seqJ (fun t w=>∃ (k148 : Nat) (x146 : Int) (t147 : Fr),k148 ≤ k ∧ internal_strconv_FormatInt.j1 (internal_strconv_FormatInt.l0 k148) (internal_strconv_FormatInt.l1 k148) k148 a0 a1 x146 = some r ∧ t = upds t147 [(0,.slice none 0 0),(1,.int .u64 x146),(2,.int .i64 a1),(3,.bool (decide (a0 < 0))),(4,.bool false),(10,.slice none 0 0),(11,.string P_str0),(12,pt b143),(13,.int .i64 65),(1000000,undef)] ∧ St (Rs.gt ).fp w0 w [.gt,.own (.int .u8) 308 (.slice (some ⟨b143,0,none⟩) 65 65) (List.replicate 65 (0 : Int))]) ?_ ?_
       · refine rg (v_ z (mv (.bool (decide (a0 < 0))) z) (nl ?_))
         refine wc_cond z (fun c150=>?_) (fun c150=>?_)
         · have E:=iT c150 E
           refine wc_region (v_ z (mv (.int .u64 (u64.wrap a0)) z) (v_ z (r_neg z) (v_ z (sg (.int .u64 (u64.wrap (-(u64.wrap a0)))) z) (wl_nil ?_))))
           exact ⟨k,_,_,Nat.le_refl _,E,upds_eq ⟨z,z,z,z,z,z,z,z,z,z,trivial⟩,H⟩
         · have E:=iF c150 E
           refine wc_skip ?_
           exact ⟨k,_,_,Nat.le_refl _,E,upds_eq ⟨z,z,z,z,z,z,z,z,z,z,trivial⟩,H⟩
       rintro t w ⟨k148,x146,t147,hk149,E,rfl,H⟩
       unfold internal_strconv_FormatInt.j1 at E
       refine wc_seqJ (fun t w=>∃ (k223 : Nat) (l220 : List Int) (x221 : Int) (t222 : Fr),k223 ≤ k148 ∧ internal_strconv_FormatInt.j2 k223 a0 l220 x221 = some r ∧ t = upds t222 [(0,.slice none 0 0),(3,.bool (decide (a0 < 0))),(4,.bool false),(10,.slice none 0 0),(11,.string P_str0),(12,pt b143),(13,.int .i64 x221),(1000000,undef)] ∧ St (Rs.gt ).fp w0 w [.gt,.own (.int .u8) 308 (.slice (some ⟨b143,0,none⟩) 65 65) l220]) ?_ ?_
       · refine rg (v_ z (mv (.int .i64 a1) z) ?_)
         obtain ⟨x225,E226,E⟩:=bind_some E
         refine e_ z (y_callL P_en_213 z ((internal_strconv_isPowerOfTwo.calls E226).mono ?_))
         rintro _ w ⟨rfl,K⟩
         have H:=H.app K
         refine ⟨_,z,(nl ?_)⟩
         refine wc_cond z (fun c227=>?_) (fun c227=>?_)
         · have E:=iT c227 E
           refine rg (v_ z (mv (.int .i64 a1) z) (v_ z (r_conv z Tryz.underlying3 Tryz.underlying130) ?_))
           obtain ⟨x228,E229,E⟩:=bind_some E
           refine e_ z (y_callL P_en_214 z ((math_bits_TrailingZeros.calls (H.get 0 z) E229).mono ?_))
           rintro _ w ⟨rfl,K⟩
           have H:=H.appX 0 z K
           refine ⟨_,z,(v_ z (r_conv z Tryz.underlying3 Tryz.underlying130) (v_ z (sg (.int .u64 (u64.wrap x228)) z) (nl (rg (v_ z (mv (.int .i64 a1) z) (v_ z (r_conv z Tryz.underlying3 Tryz.underlying261) (v_ z (sg (.int .u64 (u64.wrap a1)) z) (nl (rg (v_ z (mv (.int .i64 a1) z) (v_ z (r_conv z Tryz.underlying3 Tryz.underlying130) (v_ z (r_sub z z) (v_ z (sg (.int .u64 (u64.wrap ((u64.wrap a1) - 1))) z) (nl (wc_seq (wc_block ?_))))))))))))))))⟩
           refine wc_loop (fun kk t w=>∃ (l237 : List Int) (x238 : Int) (x239 : Int) (t249 : Fr),kk ≤ k148 ∧ internal_strconv_FormatInt.l0 kk a0 a1 x228 l237 x238 x239 = some r ∧ t = upds t249 [(0,.slice none 0 0),(1,.int .u64 x238),(3,.bool (decide (a0 < 0))),(4,.bool false),(10,.slice none 0 0),(11,.string P_str0),(12,pt b143),(13,.int .i64 x239),(14,.int .u64 (u64.wrap x228)),(15,.int .u64 (u64.wrap a1)),(16,.int .u64 (u64.wrap ((u64.wrap a1) - 1))),(1000000,undef)] ∧ St (Rs.gt ).fp w0 w [.gt,.own (.int .u8) 308 (.slice (some ⟨b143,0,none⟩) 65 65) l237]) k148 ?_ ?_
           · exact ⟨_,_,_,_,Nat.le_refl _,E,upds_eq ⟨z,z,z,z,z,z,z,z,z,z,z,z,trivial⟩,H⟩
           rintro kk t w ⟨l237,x238,x239,t249,hk248,E,rfl,H⟩
           obtain ⟨k247,rfl⟩ | rfl : (∃ k',kk = k' + 1) ∨ kk = 0:=by cases kk; exact .inr rfl; exact .inl ⟨_,rfl⟩
           rotate_left
           · cases E
           rw [internal_strconv_FormatInt.l0] at E
           refine wc_seq (rg (v_ z (mv (.int .u64 x238) z) (v_ z (mv (.int .u64 (u64.wrap a1)) z) (v_ z (r_geq z z) (nl ?_)))))
           refine wc_cond z (fun c251=>?_) (fun c251=>?_)
           · have E:=iT c251 E
             refine wc_skip (n_thn (wc_block (rg (v_ z (mv (.int .i64 x239) z) (v_ z (r_sub z z) (v_ z (sg (.int .i64 (i64.wrap (x239 - 1))) z) (nl (rg (v_ z (mv (.int .i64 (i64.wrap (x239 - 1))) z) (v_ z (mv (.int .u64 x238) z) (v_ z (mv (.int .u64 (u64.wrap ((u64.wrap a1) - 1))) z) (v_ z (r_and z z) ?_))))))))))))
             obtain ⟨⟨g252,g253⟩,E⟩:=grd_some E
             refine v_ z (r_idxS Tryz.underlying9 z z g252 g253) ?_
             obtain ⟨⟨g254,g255⟩,E⟩:=grd_some E
             refine v_ z (r_iaddrA P_ar_308 z z g254 g255) (s_ (y_storeArr P_sz_5 H 1 z (by omega) z z (fun w H=>(nl (wc_region (v_ z (mv (.int .u64 x238) z) (v_ z (mv (.int .u64 (u64.wrap x228)) z) ?_)))))))
             obtain ⟨g256,E⟩:=grd_some E
             refine v_ z (r_shr z z g256) (v_ z (sg (.int .u64 (Int.fdiv x238 (2 ^ (min (u64.wrap x228).toNat 64)))) z) (wl_nil (n_bk ?_)))
             exact ⟨k247,Nat.lt_succ_self _,_,_,_,_,Nat.le_of_succ_le hk248,E,upds_eq ⟨z,z,z,z,z,z,z,z,z,z,z,z,trivial⟩,H⟩
           · have E:=iF c251 E
             refine wc_exit (x_thn (x_thn (x_bk (n_thn (rg (v_ z (mv (.int .i64 x239) z) (v_ z (r_sub z z) (v_ z (sg (.int .i64 (i64.wrap (x239 - 1))) z) (nl (wc_region (v_ z (mv (.int .i64 (i64.wrap (x239 - 1))) z) (v_ z (mv (.int .u64 x238) z) ?_))))))))))))
             obtain ⟨⟨g257,g258⟩,E⟩:=grd_some E
             refine v_ z (r_idxS Tryz.underlying9 z z g257 g258) ?_
             obtain ⟨⟨g259,g260⟩,E⟩:=grd_some E
             refine v_ z (r_iaddrA P_ar_308 z z g259 g260) (s_ (y_storeArr P_sz_5 H 1 z (by omega) z z (fun w H=>(wl_nil ?_))))
             exact ⟨k247,_,_,_,by omega,E,upds_eq ⟨z,z,z,z,z,z,z,z,trivial⟩,H⟩
         · have E:=iF c227 E
           refine rg (v_ z (mv (.int .i64 a1) z) (v_ z (r_conv z Tryz.underlying3 Tryz.underlying261) (v_ z (sg (.int .u64 (u64.wrap a1)) z) (nl (wc_seq (wc_block ?_))))))
           refine wc_loop (fun kk t w=>∃ (l268 : List Int) (x269 : Int) (x270 : Int) (t280 : Fr),kk ≤ k148 ∧ internal_strconv_FormatInt.l1 kk a0 a1 l268 x269 x270 = some r ∧ t = upds t280 [(0,.slice none 0 0),(1,.int .u64 x269),(3,.bool (decide (a0 < 0))),(4,.bool false),(10,.slice none 0 0),(11,.string P_str0),(12,pt b143),(13,.int .i64 x270),(17,.int .u64 (u64.wrap a1)),(1000000,undef)] ∧ St (Rs.gt ).fp w0 w [.gt,.own (.int .u8) 308 (.slice (some ⟨b143,0,none⟩) 65 65) l268]) k148 ?_ ?_
           · exact ⟨_,_,_,_,Nat.le_refl _,E,upds_eq ⟨z,z,z,z,z,z,z,z,z,z,trivial⟩,H⟩
           rintro kk t w ⟨l268,x269,x270,t280,hk279,E,rfl,H⟩
           obtain ⟨k278,rfl⟩ | rfl : (∃ k',kk = k' + 1) ∨ kk = 0:=by cases kk; exact .inr rfl; exact .inl ⟨_,rfl⟩
           rotate_left
           · cases E
           rw [internal_strconv_FormatInt.l1] at E
           refine wc_seq (rg (v_ z (mv (.int .u64 x269) z) (v_ z (mv (.int .u64 (u64.wrap a1)) z) (v_ z (r_geq z z) (nl ?_)))))
           refine wc_cond z (fun c282=>?_) (fun c282=>?_)
           · have E:=iT c282 E
             refine wc_skip (n_thn (wc_block (rg (v_ z (mv (.int .i64 x270) z) (v_ z (r_sub z z) (v_ z (sg (.int .i64 (i64.wrap (x270 - 1))) z) (nl (rg (v_ z (mv (.int .u64 x269) z) (v_ z (mv (.int .u64 (u64.wrap a1)) z) ?_))))))))))
             obtain ⟨g283,E⟩:=grd_some E
             refine v_ z (r_quo z z g283) (v_ z (sg (.int .u64 (u64.wrap (Int.tdiv x269 (u64.wrap a1)))) z) (nl (rg (v_ z (mv (.int .i64 (i64.wrap (x270 - 1))) z) (v_ z (mv (.int .u64 x269) z) (v_ z (mv (.int .u64 (u64.wrap (Int.tdiv x269 (u64.wrap a1)))) z) (v_ z (mv (.int .u64 (u64.wrap a1)) z) (v_ z (r_mul z z) (v_ z (r_sub z z) ?_)))))))))
             obtain ⟨⟨g284,g285⟩,E⟩:=grd_some E
             refine v_ z (r_idxS Tryz.underlying9 z z g284 g285) ?_
             obtain ⟨⟨g286,g287⟩,E⟩:=grd_some E
             refine v_ z (r_iaddrA P_ar_308 z z g286 g287) (s_ (y_storeArr P_sz_5 H 1 z (by omega) z z (fun w H=>(nl (wc_region (v_ z (mv (.int .u64 (u64.wrap (Int.tdiv x269 (u64.wrap a1)))) z) (v_ z (sg (.int .u64 (u64.wrap (Int.tdiv x269 (u64.wrap a1)))) z) (wl_nil (n_bk ?_)))))))))
             exact ⟨k278,Nat.lt_succ_self _,_,_,_,_,Nat.le_of_succ_le hk279,E,upds_eq ⟨z,z,z,z,z,z,z,z,z,z,trivial⟩,H⟩
           · have E:=iF c282 E
             refine wc_exit (x_thn (x_thn (x_bk (n_thn (rg (v_ z (mv (.int .i64 x270) z) (v_ z (r_sub z z) (v_ z (sg (.int .i64 (i64.wrap (x270 - 1))) z) (nl (wc_region (v_ z (mv (.int .i64 (i64.wrap (x270 - 1))) z) (v_ z (mv (.int .u64 x269) z) ?_))))))))))))
             obtain ⟨⟨g288,g289⟩,E⟩:=grd_some E
             refine v_ z (r_idxS Tryz.underlying9 z z g288 g289) ?_
             obtain ⟨⟨g290,g291⟩,E⟩:=grd_some E
             refine v_ z (r_iaddrA P_ar_308 z z g290 g291) (s_ (y_storeArr P_sz_5 H 1 z (by omega) z z (fun w H=>(wl_nil ?_))))
             exact ⟨k278,_,_,_,by omega,E,upds_eq ⟨z,z,z,z,z,z,z,z,trivial⟩,H⟩
       rintro t w ⟨k223,l220,x221,t222,hk224,E,rfl,H⟩
       unfold internal_strconv_FormatInt.j2 at E
       refine wc_seqJ (fun t w=>∃ (k300 : Nat) (l297 : List Int) (x298 : Int) (t299 : Fr),k300 ≤ k223 ∧ internal_strconv_FormatInt.j3 k300 l297 x298 = some r ∧ t = upds t299 [(0,.slice none 0 0),(4,.bool false),(10,.slice none 0 0),(11,.string P_str0),(12,pt b143),(13,.int .i64 x298),(1000000,undef)] ∧ St (Rs.gt ).fp w0 w [.gt,.own (.int .u8) 308 (.slice (some ⟨b143,0,none⟩) 65 65) l297]) ?_ ?_
       · refine rg (v_ z (mv (.bool (decide (a0 < 0))) z) (nl ?_))
         refine wc_cond z (fun c302=>?_) (fun c302=>?_)
         · have E:=iT c302 E
           refine rg (v_ z (mv (.int .i64 x221) z) (v_ z (r_sub z z) (v_ z (sg (.int .i64 (i64.wrap (x221 - 1))) z) (nl (wc_region (v_ z (mv (.int .i64 (i64.wrap (x221 - 1))) z) ?_))))))
           obtain ⟨⟨g303,g304⟩,E⟩:=grd_some E
           refine v_ z (r_iaddrA P_ar_308 z z g303 g304) (s_ (y_storeArr P_sz_5 H 1 z (by omega) z z (fun w H=>(wl_nil ?_))))
           exact ⟨k223,_,_,_,Nat.le_refl _,E,upds_eq ⟨z,z,z,z,z,z,z,trivial⟩,H⟩
         · have E:=iF c302 E
           refine wc_skip ?_
           exact ⟨k223,_,_,_,Nat.le_refl _,E,upds_eq ⟨z,z,z,z,z,z,z,trivial⟩,H⟩
       rintro t w ⟨k300,l297,x298,t299,hk301,E,rfl,H⟩
       unfold internal_strconv_FormatInt.j3 at E
       refine wc_seq (rg (v_ z (mv (.bool false) z) (nl (wc_condF z (wc_skip (n_thn (rg (v_ z (mv (.int .i64 x298) z) ?_))))))))
       obtain ⟨⟨g305,g306⟩,E⟩:=grd_some E
       refine v_ z (r_slcA P_ar_308 z z g305 g306) (v_ z (r_cvA Tryz.underlying22 Tryz.underlying5 Tryz.underlying9 (H.get 1 z) z) (v_ z (sg (.string (strOfNums (l297.drop x298.toNat))) z) (nl (wc_ret (⟨.inl z,.tuple #[.slice none 0 0,.string (strOfNums (l297.drop x298.toNat))],tk0 z ⟨resM z (rv_t (rv_t rv_nil)) z,(v_ z (r_move) (v_ z (r_extract z z) (v_ z (r_extract z z) (v_ z (sg (.slice none 0 0) z) (v_ z (sg (.string (strOfNums (l297.drop x298.toNat))) z) (nl (rg (v_ z (mv (.string (strOfNums (l297.drop x298.toNat))) z) (v_ z (sg (.string (strOfNums (l297.drop x298.toNat))) z) (nl (wc_ret ?_)))))))))))⟩⟩)))))
       cases E
       exact ⟨.inl z,_,tk0 z ⟨resN z (rv_t rv_nil),z,H.sub1 0 z⟩⟩
def strconv_FormatInt.f (k : Nat) (a0 : Int) (a1 : Int) : Option (ByteArray):=(internal_strconv_FormatInt.f k a0 a1).bind fun x1=>some x1
theorem strconv_FormatInt.calls {w0 : World} {k : Nat} {a0 : Int} {a1 : Int} {r : ByteArray} (hf : (Rs.gt ).inv w0) (E : strconv_FormatInt.f k a0 a1 = some r) :
   Calls Tryz.prog 72 #[.int .i64 a0,.int .i64 a1] w0 fun e w'=>e = .returned (.string r) ∧ St (Rs.gt ).fp w0 w' [.gt]:=by
 have H:=St.start hf
 unfold strconv_FormatInt.f at E
 refine calls_of_wc (N:=8) (args:=[.int .i64 a0,.int .i64 a1]) Tryz.func72 z z (by simp) ?_
 refine rg (v_ z (sg (.string P_str0) z) (nl (rg (v_ z (mv (.int .i64 a0) z) (v_ z (mv (.int .i64 a1) z) ?_)))))
 obtain ⟨x1,E2,E⟩:=bind_some E
 refine e_ z (y_callL P_en_97 z ((internal_strconv_FormatInt.calls (H.get 0 z) E2).mono ?_))
 rintro _ w ⟨rfl,K⟩
 have H:=H.appX 0 z K
 refine ⟨_,z,(v_ z (sg (.string x1) z) (nl (wc_ret ?_)))⟩
 cases E
 exact ⟨.inl z,_,tk0 z ⟨resN z (rv_t rv_nil),z,H.sub1 0 z⟩⟩
def play_hex.l0 : Nat → List Int → ByteArray → Int → Option (ByteArray)
 | 0,_,_,_=>none
 | k + 1,a0,l17,x18=>bif decide (x18 < (a0.length : Int)) then (grd (decide ((0 : Int) ≤ x18 ∧ x18 < (a0.length : Int))) ((strconv_FormatInt.f k (i64.wrap (u8.wrap (Int.tdiv (at_ 0 a0 x18) 16))) 16).bind fun x38=>grd (decide (l17.size + x38.size ≤ 140737488355328)) ((strconv_FormatInt.f k (i64.wrap (Int.tmod (at_ 0 a0 x18) 16)) 16).bind fun x42=>grd (decide ((cat l17 x38).size + x42.size ≤ 140737488355328)) (play_hex.l0 k a0 (cat (cat l17 x38) x42) (i64.wrap (x18 + 1)))))) else (some l17)
def play_hex.f (k : Nat) (a0 : List Int) : Option (ByteArray):=bif decide ((a0.length : Int) = 0) then (some P_str4) else (play_hex.l0 k a0 ByteArray.empty 0)
theorem play_hex.calls {w0 : World} {k : Nat} {a0 : List Int} {v0_ : Value} {r : ByteArray} (hf : (Rs.gt ).inv w0) (h0 : Rd (.of (.int .u8)) w0 (Ol (Rs.gt ).fp w0) v0_ a0) (E : play_hex.f k a0 = some r) :
   Calls Tryz.prog 43 #[v0_] w0 fun e w'=>e = .returned (.string r) ∧ St (Rs.gt ).fp w0 w' [.gt]:=by
 have H:=St.start hf
 unfold play_hex.f at E
 refine calls_of_wc (N:=27) (args:=[v0_]) Tryz.func43 z z (by simp) ?_
 refine rg (v_ z (sg (.string P_str0) z) (nl (wc_seq (rg (v_ z (mv v0_ z) (v_ z (r_lenR P_ul_22 (H.rd h0) z) (v_ z (r_eql z z) (nl ?_))))))))
 refine wc_cond z (fun c2=>?_) (fun c2=>?_)
 · have E:=iT c2 E
   refine rg (v_ z (sg (.string P_str4) z) (nl (wc_ret ?_)))
   cases E
   exact (r_thn ⟨.inl z,_,tk0 z ⟨resN z (rv_t rv_nil),z,H.sub1 0 z⟩⟩)
 · have E:=iF c2 E
   refine wc_skip (n_thn (rg (e_ z (y_bnew P_zr_55 H (fun b3 w H=>(nl (wc_seq (rg (v_ z (mv v0_ z) (v_ z (r_lenR P_ul_22 (H.rd h0) z) (v_ z (mv (.int .i64 0) z) (nl (wc_block ?_)))))))))))))
   refine wc_loop (fun kk t w=>∃ (l17 : ByteArray) (x18 : Int) (v16 : Value) (t33 : Fr),kk ≤ k ∧ play_hex.l0 kk a0 l17 x18 = some r ∧ t = upds t33 [(2,.string P_str0),(3,pt b3),(9,v0_),(10,.int .i64 (a0.length : Int)),(11,.int .i64 x18),(1000000,undef)] ∧ St (Rs.gt ).fp w0 w [.gt,.bld b3 v16 (sb l17)]) k ?_ ?_
   · exact ⟨_,_,_,_,Nat.le_refl _,E,upds_eq ⟨z,z,z,z,z,z,trivial⟩,H⟩
   rintro kk t w ⟨l17,x18,v16,t33,hk32,E,rfl,H⟩
   obtain ⟨k31,rfl⟩ | rfl : (∃ k',kk = k' + 1) ∨ kk = 0:=by cases kk; exact .inr rfl; exact .inl ⟨_,rfl⟩
   rotate_left
   · cases E
   rw [play_hex.l0] at E
   refine rg (v_ z (r_lss z z) (nl (wc_seq ?_)))
   refine wc_cond z (fun c35=>?_) (fun c35=>?_)
   · have E:=iT c35 E
     refine wc_skip (n_thn (wc_seq (wc_block (rg ?_))))
     obtain ⟨⟨g36,g37⟩,E⟩:=grd_some E
     refine v_ z (r_idx P_sl_22 (H.rd h0) z z g36 g37) (v_ z (r_ldI P_sc_5 (H.rd h0) g36 g37 z) (v_ z (sg (.int .u8 (at_ 0 a0 x18)) z) (nl (rg (v_ z (mv (.int .u8 (at_ 0 a0 x18)) z) (v_ z (r_quo z z (by decide)) (v_ z (r_conv z Tryz.underlying5 Tryz.underlying2) ?_)))))))
     obtain ⟨x38,E39,E⟩:=bind_some E
     refine e_ z (y_callL P_en_72 z ((strconv_FormatInt.calls (H.get 0 z) E39).mono ?_))
     rintro _ w ⟨rfl,K⟩
     have H:=H.appX 0 z K
     refine ⟨_,z,?_⟩
     obtain ⟨g41,E⟩:=grd_some E
     refine e_ z (y_bw H 1 z P_en_30 z z g41 (fun v40 w H=>(nl (wc_region (v_ z (mv (.int .u8 (at_ 0 a0 x18)) z) (v_ z (r_rem z z (by decide)) (v_ z (r_conv z Tryz.underlying5 Tryz.underlying2) ?_)))))))
     obtain ⟨x42,E43,E⟩:=bind_some E
     refine e_ z (y_callL P_en_72 z ((strconv_FormatInt.calls (H.get 0 z) E43).mono ?_))
     rintro _ w ⟨rfl,K⟩
     have H:=H.appX 0 z K
     refine ⟨_,z,?_⟩
     obtain ⟨g45,E⟩:=grd_some E
     refine e_ z (y_bw H 1 z P_en_30 z z g45 (fun v44 w H=>(wl_nil (n_bk (n_thn (wc_region (v_ z (r_add z z) (v_ z (mv (.int .i64 (i64.wrap (x18 + 1))) z) (wl_nil ?_)))))))))
     exact ⟨k31,Nat.lt_succ_self _,_,_,_,_,Nat.le_of_succ_le hk32,E,upds_eq ⟨z,z,z,z,z,z,trivial⟩,H⟩
   · have E:=iF c35 E
     refine wc_exit (x_thn (x_thn (x_bk (n_thn (rg (e_ z (y_bt H 1 z P_en_31 z (fun w H=>(v_ z (sg (.string l17) z) (nl (wc_ret ?_)))))))))))
     cases E
     exact ⟨.inl z,_,tk0 z ⟨resN z (rv_t rv_nil),z,H.sub1 0 z⟩⟩
def play_list.j0 (k : Nat) (a1 : ByteArray) (l48 : List (ByteArray)) : Option (ByteArray):=(strings_Join.f l48 a1).bind fun x94=>some x94
def play_list.l0 : Nat → List Int → ByteArray → List (ByteArray) → Int → Option (ByteArray)
 | 0,_,_,_,_=>none
 | k + 1,a0,a1,l71,x72=>bif decide (x72 < (a0.length : Int)) then (grd (decide ((0 : Int) ≤ x72 ∧ x72 < (a0.length : Int))) ((strconv_Itoa.f (at_ 0 a0 x72)).bind fun x89=>grd (decide ((l71.length + ([x89]).length) * 16 ≤ 140737488355328)) (play_list.l0 k a0 a1 (l71 ++ ([x89])) (i64.wrap (x72 + 1))))) else (play_list.j0 k a1 l71)
def play_list.f (k : Nat) (a0 : List Int) (a1 : ByteArray) : Option (ByteArray):=bif decide ((a0.length : Int) = 0) then (some P_str4) else (play_list.l0 k a0 a1 ([] : List (ByteArray)) 0)
theorem play_list.calls {w0 : World} {k : Nat} {a0 : List Int} {a1 : ByteArray} {v0_ : Value} {r : ByteArray} (hf : (Rs.lv ).inv w0) (h0 : Rd (.of (.int .i64)) w0 (Ol (Rs.lv ).fp w0) v0_ a0) (E : play_list.f k a0 a1 = some r) :
   Calls Tryz.prog 46 #[v0_,.string a1] w0 fun e w'=>e = .returned (.string r) ∧ St (Rs.lv ).fp w0 w' [.lv]:=by
 have H:=St.start hf
 unfold play_list.f at E
 refine calls_of_wc (N:=26) (args:=[v0_,.string a1]) Tryz.func46 z z (by simp) ?_
 refine rg (v_ z (sg (.string P_str0) z) (nl (wc_seq (rg (v_ z (mv v0_ z) (v_ z (r_lenR P_ul_45 (H.rd h0) z) (v_ z (r_eql z z) (nl ?_))))))))
 refine wc_cond z (fun c2=>?_) (fun c2=>?_)
 · have E:=iT c2 E
   refine rg (v_ z (sg (.string P_str4) z) (nl (wc_ret ?_)))
   cases E
   exact (r_thn ⟨.inl z,_,tk0 z ⟨resN z (rv_t rv_nil),z,H.sub1 0 z⟩⟩)
 · have E:=iF c2 E
   refine wc_skip (n_thn (rg (v_ z (sg (.slice none 0 0) z) (nl ?_))))
   refine wc_seqJ (fun t w=>∃ (k50 : Nat) (l48 : List (ByteArray)) (v47 : Value) (t49 : Fr),k50 ≤ k ∧ play_list.j0 k50 a1 l48 = some r ∧ t = upds t49 [(1,.string a1),(4,.string P_str0),(5,v47),(1000000,undef)] ∧ St (Rs.lv ).fp w0 w [.lv,.own .str 9 v47 l48]) ?_ ?_
   · refine rg (v_ z (mv v0_ z) (v_ z (r_lenR P_ul_45 (H.rd h0) z) (v_ z (mv (.int .i64 0) z) (nl (wc_block ?_)))))
     have H:=H.nilOwn .str 9
     refine wc_loop (fun kk t w=>∃ (l71 : List (ByteArray)) (x72 : Int) (v70 : Value) (t84 : Fr),kk ≤ k ∧ play_list.l0 kk a0 a1 l71 x72 = some r ∧ t = upds t84 [(1,.string a1),(4,.string P_str0),(5,v70),(11,v0_),(12,.int .i64 (a0.length : Int)),(13,.int .i64 x72),(1000000,undef)] ∧ St (Rs.lv ).fp w0 w [.lv,.own .str 9 v70 l71]) k ?_ ?_
     · exact ⟨_,_,_,_,Nat.le_refl _,E,upds_eq ⟨z,z,z,z,z,z,z,trivial⟩,H⟩
     rintro kk t w ⟨l71,x72,v70,t84,hk83,E,rfl,H⟩
     obtain ⟨k82,rfl⟩ | rfl : (∃ k',kk = k' + 1) ∨ kk = 0:=by cases kk; exact .inr rfl; exact .inl ⟨_,rfl⟩
     rotate_left
     · cases E
     rw [play_list.l0] at E
     refine rg (v_ z (r_lss z z) (nl (wc_seq ?_)))
     refine wc_cond z (fun c86=>?_) (fun c86=>?_)
     · have E:=iT c86 E
       refine wc_skip (n_thn (wc_seq (wc_block (rg ?_))))
       obtain ⟨⟨g87,g88⟩,E⟩:=grd_some E
       refine v_ z (r_idx P_sl_45 (H.rd h0) z z g87 g88) (v_ z (r_ldI P_sc_3 (H.rd h0) g87 g88 z) (v_ z (sg (.int .i64 (at_ 0 a0 x72)) z) (nl (wc_region (v_ z (mv v70 z) (v_ z (mv (.int .i64 (at_ 0 a0 x72)) z) ?_))))))
       obtain ⟨x89,E90,E⟩:=bind_some E
       refine e_ z (y_callL P_en_32 z ((strconv_Itoa.calls (H.get 0 z) E90).mono ?_))
       rintro _ w ⟨rfl,K⟩
       have H:=H.appX 0 z K
       refine ⟨_,z,(e_ z (y_bsL (e:=.str) (l:=[x89]) P_sl_50 H z (by decide) ⟨z,z,trivial⟩ (by decide) (fun v91 w H=>?_)))⟩
       obtain ⟨g93,E⟩:=grd_some E
       refine e_ z (y_app P_sl_50 H 1 z (own_rd (H.get 2 z)) z z (by omega) (by unfold maxLen; omega) (fun v92 w H=>(v_ z (sg v92 z) (wl_nil (n_bk (n_thn (wc_region (v_ z (r_add z z) (v_ z (mv (.int .i64 (i64.wrap (x72 + 1))) z) (wl_nil ?_))))))))))
       exact ⟨k82,Nat.lt_succ_self _,_,_,_,_,Nat.le_of_succ_le hk83,E,upds_eq ⟨z,z,z,z,z,z,z,trivial⟩,H.sel [0,1] z z⟩
     · have E:=iF c86 E
       refine wc_exit (x_thn (x_thn (x_bk ?_)))
       exact ⟨k82,_,_,_,by omega,E,upds_eq ⟨z,z,z,z,trivial⟩,H⟩
   rintro t w ⟨k50,l48,v47,t49,hk51,E,rfl,H⟩
   unfold play_list.j0 at E
   refine rg (v_ z (mv v47 z) (v_ z (mv (.string a1) z) ?_))
   obtain ⟨x94,E95,E⟩:=bind_some E
   refine e_ z (y_callL P_en_77 z ((strings_Join.calls (H.own 1 z (own_rd (H.get 1 z))) E95).mono ?_))
   rintro _ w ⟨rfl,K⟩
   have H:=H.app K
   refine ⟨_,z,(v_ z (sg (.string x94) z) (nl (wc_ret ?_)))⟩
   cases E
   exact ⟨.inl z,_,tk0 z ⟨resN z (rv_t rv_nil),z,H.sub1 0 z⟩⟩
def play_said.f (a0 : List ByteArray) : Option (ByteArray):=(strings_Join.f a0 P_str5).bind fun x1=>some x1
theorem play_said.calls {w0 : World} {a0 : List ByteArray} {v0_ : Value} {r : ByteArray} (h0 : Rd (.of .str) w0 (Ol no w0) v0_ a0) (E : play_said.f a0 = some r) :
   Calls Tryz.prog 45 #[v0_] w0 fun e w'=>e = .returned (.string r) ∧ St no w0 w' []:=by
 have H:=St.nil no w0
 unfold play_said.f at E
 refine calls_of_wc (N:=5) (args:=[v0_]) Tryz.func45 z z (by simp) ?_
 refine rg (v_ z (sg (.string P_str0) z) (nl (rg (v_ z (mv v0_ z) ?_))))
 obtain ⟨x1,E2,E⟩:=bind_some E
 refine e_ z (y_callL P_en_77 z ((strings_Join.calls (H.arg (H.rd h0)) E2).mono ?_))
 rintro _ w ⟨rfl,K⟩
 have H:=H.app K
 refine ⟨_,z,(v_ z (sg (.string x1) z) (nl (wc_ret ?_)))⟩
 cases E
 exact ⟨.inl z,_,tk0 z ⟨resN z (rv_t rv_nil),z,H.sub0⟩⟩
def play_fail.f (a0 : Int) : Option (ByteArray):=(strconv_Itoa.f (i64.wrap a0)).bind fun x1=>(play_said.f ([P_str6,x1])).bind fun x4=>some x4
theorem play_fail.calls {w0 : World} {a0 : Int} {r : ByteArray} (hf : (Rs.lv ).inv w0) (E : play_fail.f a0 = some r) :
   Calls Tryz.prog 39 #[.int .u16 a0] w0 fun e w'=>e = .returned (.string r) ∧ St (Rs.lv ).fp w0 w' [.lv]:=by
 have H:=St.start hf
 unfold play_fail.f at E
 refine calls_of_wc (N:=8) (args:=[.int .u16 a0]) Tryz.func39 z z (by simp) ?_
 refine rg (v_ z (sg (.string P_str0) z) (nl (rg (v_ z (mv (.int .u16 a0) z) (v_ z (r_conv z Tryz.underlying93 Tryz.underlying3) ?_)))))
 obtain ⟨x1,E2,E⟩:=bind_some E
 refine e_ z (y_callL P_en_32 z ((strconv_Itoa.calls (H.get 0 z) E2).mono ?_))
 rintro _ w ⟨rfl,K⟩
 have H:=H.appX 0 z K
 refine ⟨_,z,(e_ z (y_bsL (e:=.str) (l:=[P_str6,x1]) P_sl_50 H z (by decide) ⟨z,z,z,z,trivial⟩ (by decide) (fun v3 w H=>?_)))⟩
 obtain ⟨x4,E5,E⟩:=bind_some E
 refine e_ z (y_callL P_en_45 z ((play_said.calls (H.own 1 z (own_rd (H.get 1 z))) E5).mono ?_))
 rintro _ w ⟨rfl,K⟩
 have H:=H.app K
 refine ⟨_,z,(v_ z (sg (.string x4) z) (nl (wc_ret ?_)))⟩
 cases E
 exact ⟨.inl z,_,tk0 z ⟨resN z (rv_t rv_nil),z,H.sub1 0 z⟩⟩
def play_numbers.l0 : Nat → List ByteArray → List (Int) → Int → Option (List Int × Bool)
 | 0,_,_,_=>none
 | k + 1,a0,l40,x41=>bif decide (x41 < (a0.length : Int)) then (grd (decide ((0 : Int) ≤ x41 ∧ x41 < (a0.length : Int))) (bif decide ((at_ ByteArray.empty a0 x41) = P_str0) then (some (([] : List (Int)),false)) else (bif decide (4 < ((at_ ByteArray.empty a0 x41).size : Int)) then (some (([] : List (Int)),false)) else ((strings_Trim.f (at_ ByteArray.empty a0 x41) P_str7).bind fun x75=>bif !decide (x75 = P_str0) then (some (([] : List (Int)),false)) else ((strconv_Atoi.f (at_ ByteArray.empty a0 x41)).bind fun x78=>grd (decide ((l40.length + ([x78]).length) * 8 ≤ 140737488355328)) (play_numbers.l0 k a0 (l40 ++ ([x78])) (i64.wrap (x41 + 1)))))))) else (some (l40,true))
def play_numbers.f (k : Nat) (a0 : List ByteArray) : Option (List Int × Bool):=play_numbers.l0 k a0 ([] : List (Int)) 0
theorem play_numbers.calls {w0 : World} {k : Nat} {a0 : List ByteArray} {v0_ : Value} {r : List Int × Bool} (hf : (Rs.lv ).inv w0) (h0 : Rd (.of .str) w0 (Ol (Rs.lv ).fp w0) v0_ a0) (E : play_numbers.f k a0 = some r) :
   Calls Tryz.prog 37 #[v0_] w0 fun e w'=>∃ (u0 : Value),e = .returned (.tuple #[u0,.bool r.2]) ∧ St (Rs.lv ).fp w0 w' [.lv,.own (.int .i64) 3 u0 r.1]:=by
 have H:=St.start hf
 unfold play_numbers.f at E
 refine calls_of_wc (N:=38) (args:=[v0_]) Tryz.func37 z z (by simp) ?_
 refine rg (v_ z (sg (.slice none 0 0) z) (v_ z (sg (.bool false) z) (nl (rg (v_ z (sg (.slice none 0 0) z) (nl (wc_seq (rg (v_ z (mv v0_ z) (v_ z (r_lenR P_ul_50 (H.rd h0) z) (v_ z (mv (.int .i64 0) z) (nl (wc_block ?_)))))))))))))
 have H:=H.nilOwn (.int .i64) 3
 refine wc_loop (fun kk t w=>∃ (l40 : List (Int)) (x41 : Int) (v39 : Value) (t63 : Fr),kk ≤ k ∧ play_numbers.l0 kk a0 l40 x41 = some r ∧ t = upds t63 [(2,.slice none 0 0),(3,.bool false),(4,v39),(9,v0_),(10,.int .i64 (a0.length : Int)),(11,.int .i64 x41),(1000000,undef)] ∧ St (Rs.lv ).fp w0 w [.lv,.own (.int .i64) 3 v39 l40]) k ?_ ?_
 · exact ⟨_,_,_,_,Nat.le_refl _,E,upds_eq ⟨z,z,z,z,z,z,z,trivial⟩,H⟩
 rintro kk t w ⟨l40,x41,v39,t63,hk62,E,rfl,H⟩
 obtain ⟨k61,rfl⟩ | rfl : (∃ k',kk = k' + 1) ∨ kk = 0:=by cases kk; exact .inr rfl; exact .inl ⟨_,rfl⟩
 rotate_left
 · cases E
 rw [play_numbers.l0] at E
 refine rg (v_ z (r_lss z z) (nl (wc_seq ?_)))
 refine wc_cond z (fun c65=>?_) (fun c65=>?_)
 · have E:=iT c65 E
   refine wc_skip (n_thn (wc_seq (wc_block (rg ?_))))
   obtain ⟨⟨g66,g67⟩,E⟩:=grd_some E
   refine v_ z (r_idx P_sl_50 (H.rd h0) z z g66 g67) (v_ z (r_ldE (e:=.str) (j:=0) P_sc_9 (H.rd h0) (at_get ByteArray.empty g66 g67) z z) (v_ z (sg (.string (at_ ByteArray.empty a0 x41)) z) (nl (wc_seq (rg (v_ z (mv (.string (at_ ByteArray.empty a0 x41)) z) (v_ z (r_seql z z) (v_ z (mv (.bool (decide ((at_ ByteArray.empty a0 x41) = P_str0))) z) ?_))))))))
   rcases Bool.eq_false_or_eq_true (decide ((at_ ByteArray.empty a0 x41) = P_str0)) with c73 | c73
   · have E:=iT c73 E
     refine off_ c73 z z z (off_ c73 z z z (off_ c73 z z z (v_ z (pT (.bool true) z z c73) (v_ z (mv (.bool true) z) (off_ z z z z (off_ z z z z (off_ z z z z (v_ z (pT (.bool true) z z z) (nl (wc_condT z (rg (v_ z (sg (.slice none 0 0) z) (v_ z (sg (.bool false) z) (nl (wc_ret ?_)))))))))))))))
     have H:=H.nilOwn (.int .i64) 3
     cases E
     exact (r_thn (r_bk (r_thn (r_thn (r_bk (r_thn ⟨.inl z,_,tk0 z ⟨resN z (rv_t (rv_t rv_nil)),_,z,H.sub2 0 2 z z z⟩⟩))))))
   · have E:=iF c73 E
     refine on_ c73 z z (mv (.string (at_ ByteArray.empty a0 x41)) z) (on_ c73 z z (r_lenS P_cvl_9 z) (on_ c73 z z (r_gtr z z) (v_ z (pF (.bool (decide (4 < ((at_ ByteArray.empty a0 x41).size : Int)))) z z c73) (v_ z (mv (.bool (decide (4 < ((at_ ByteArray.empty a0 x41).size : Int)))) z) ?_))))
     rcases Bool.eq_false_or_eq_true (decide (4 < ((at_ ByteArray.empty a0 x41).size : Int))) with c74 | c74
     · have E:=iT c74 E
       refine off_ c74 z z z (off_ c74 z z z (off_ c74 z z z (v_ z (pT (.bool true) z z c74) (nl (wc_condT z (rg (v_ z (sg (.slice none 0 0) z) (v_ z (sg (.bool false) z) (nl (wc_ret ?_))))))))))
       have H:=H.nilOwn (.int .i64) 3
       cases E
       exact (r_thn (r_bk (r_thn (r_thn (r_bk (r_thn ⟨.inl z,_,tk0 z ⟨resN z (rv_t (rv_t rv_nil)),_,z,H.sub2 0 2 z z z⟩⟩))))))
     · have E:=iF c74 E
       refine on_ c74 z z (mv (.string (at_ ByteArray.empty a0 x41)) z) ?_
       obtain ⟨x75,E76,E⟩:=bind_some E
       refine wl_on z c74 z (y_callL P_en_65 z ((strings_Trim.calls E76).mono ?_))
       rintro _ w ⟨rfl,K⟩
       have H:=H.app K
       refine ⟨_,z,(on_ c74 z z (r_sneq z z) (v_ z (pF (.bool (!decide (x75 = P_str0))) z z c74) (nl ?_)))⟩
       refine wc_cond z (fun c77=>?_) (fun c77=>?_)
       · have E:=iT c77 E
         refine rg (v_ z (sg (.slice none 0 0) z) (v_ z (sg (.bool false) z) (nl (wc_ret ?_))))
         have H:=H.nilOwn (.int .i64) 3
         cases E
         exact (r_thn (r_bk (r_thn (r_thn (r_bk (r_thn ⟨.inl z,_,tk0 z ⟨resN z (rv_t (rv_t rv_nil)),_,z,H.sub2 0 2 z z z⟩⟩))))))
       · have E:=iF c77 E
         refine wc_skip (n_thn (rg (v_ z (mv (.string (at_ ByteArray.empty a0 x41)) z) ?_)))
         obtain ⟨x78,E79,E⟩:=bind_some E
         refine e_ z (y_callL P_en_66 z ((strconv_Atoi.calls E79).mono ?_))
         rintro _ w ⟨rfl,K⟩
         have H:=H.app K
         refine ⟨_,z,(v_ z (r_move) (v_ z (r_extract z z) (v_ z (r_extract z z) (v_ z (sg (.int .i64 x78) z) (v_ z (sg (.nilIface) z) (nl (wc_region (v_ z (mv v39 z) (v_ z (mv (.int .i64 x78) z) (e_ z (y_bsL (e:=(.int .i64)) (l:=[x78]) P_sl_45 H z (by decide) ⟨z,z,trivial⟩ (by decide) (fun v80 w H=>?_))))))))))))⟩
         obtain ⟨g82,E⟩:=grd_some E
         refine e_ z (y_app P_sl_45 H 1 z (own_rd (H.get 2 z)) z z (by omega) (by unfold maxLen; omega) (fun v81 w H=>(v_ z (sg v81 z) (wl_nil (n_bk (n_thn (wc_region (v_ z (r_add z z) (v_ z (mv (.int .i64 (i64.wrap (x41 + 1))) z) (wl_nil ?_))))))))))
         exact ⟨k61,Nat.lt_succ_self _,_,_,_,_,Nat.le_of_succ_le hk62,E,upds_eq ⟨z,z,z,z,z,z,z,trivial⟩,H.sel [0,1] z z⟩
 · have E:=iF c65 E
   refine wc_exit (x_thn (x_thn (x_bk (n_thn (rg (v_ z (mv v39 z) (v_ z (sg v39 z) (v_ z (sg (.bool true) z) (nl (wc_ret ?_))))))))))
   cases E
   exact ⟨.inl z,_,tk0 z ⟨resN z (rv_t (rv_t rv_nil)),_,z,H.sub2 0 1 z z z⟩⟩
def play_half.j0 (a0 : Int) (x3 : Bool) : Option (Int × Bool):=bif x3 then (some (u8.wrap (i32.wrap (a0 - 48)),true)) else (bif decide (97 ≤ a0) then (bif decide (a0 ≤ 102) then (some (u8.wrap ((u8.wrap (i32.wrap (a0 - 97))) + 10),true)) else (some (0,false))) else (some (0,false)))
def play_half.f (a0 : Int) : Option (Int × Bool):=bif decide (48 ≤ a0) then (play_half.j0 a0 (decide (a0 ≤ 57))) else (play_half.j0 a0 false)
theorem play_half.calls {w0 : World} {a0 : Int} {r : Int × Bool}  (E : play_half.f a0 = some r) :
   Calls Tryz.prog 67 #[.int .i32 a0] w0 fun e w'=>e = .returned (.tuple #[.int .u8 r.1,.bool r.2]) ∧ St no w0 w' []:=by
 have H:=St.nil no w0
 unfold play_half.f at E
 refine calls_of_wc (N:=25) (args:=[.int .i32 a0]) Tryz.func67 z z (by simp) ?_
 obtain ⟨k,_⟩ : ∃ k : Nat,k = 0:=⟨0,rfl⟩
 refine rg (v_ z (sg (.int .u8 0) z) (v_ z (sg (.bool false) z) (nl (wc_seq (wc_block ?_)))))
 refine wc_seqJ (fun t w=>∃ (k5 : Nat) (x3 : Bool) (t4 : Fr),k5 ≤ k ∧ play_half.j0 a0 x3 = some r ∧ t = upds t4 [(0,.int .i32 a0),(2,.int .u8 0),(3,.bool false),(4,.bool x3),(1000000,undef)] ∧ St no w0 w []) ?_ ?_
 · refine wc_region (v_ z (mv (.int .i32 a0) z) (v_ z (r_geq z z) (v_ z (mv (.bool (decide (48 ≤ a0))) z) ?_)))
   rcases Bool.eq_false_or_eq_true (decide (48 ≤ a0)) with c7 | c7
   · have E:=iT c7 E
     refine on_ c7 z z (mv (.int .i32 a0) z) (on_ c7 z z (r_leq z z) (v_ z (pT (.bool (decide (a0 ≤ 57))) z z c7) (v_ z (sg (.bool (decide (a0 ≤ 57))) z) (wl_nil ?_))))
     exact ⟨k,_,_,Nat.le_refl _,E,upds_eq ⟨z,z,z,z,z,trivial⟩,H⟩
   · have E:=iF c7 E
     refine off_ c7 z z z (off_ c7 z z z (v_ z (pF (.bool false) z z c7) (v_ z (sg (.bool false) z) (wl_nil ?_))))
     exact ⟨k,_,_,Nat.le_refl _,E,upds_eq ⟨z,z,z,z,z,trivial⟩,H⟩
 rintro t w ⟨k5,x3,t4,hk6,E,rfl,H⟩
 unfold play_half.j0 at E
 refine wc_cond z (fun c8=>?_) (fun c8=>?_)
 · have E:=iT c8 E
   refine rg (v_ z (mv (.int .i32 a0) z) (v_ z (r_sub z z) (v_ z (r_conv z Tryz.underlying21 Tryz.underlying5) (v_ z (sg (.int .u8 (u8.wrap (i32.wrap (a0 - 48)))) z) (v_ z (sg (.bool true) z) (nl (wc_ret ?_)))))))
   cases E
   exact (r_bk (r_thn ⟨.inl z,_,tk0 z ⟨resN z (rv_t (rv_t rv_nil)),z,H.sub0⟩⟩))
 · have E:=iF c8 E
   refine rg (v_ z (mv (.int .i32 a0) z) (v_ z (r_geq z z) (v_ z (mv (.bool (decide (97 ≤ a0))) z) ?_)))
   rcases Bool.eq_false_or_eq_true (decide (97 ≤ a0)) with c9 | c9
   · have E:=iT c9 E
     refine on_ c9 z z (mv (.int .i32 a0) z) (on_ c9 z z (r_leq z z) (v_ z (pT (.bool (decide (a0 ≤ 102))) z z c9) (v_ z (sg (.bool (decide (a0 ≤ 102))) z) (nl ?_))))
     refine wc_cond z (fun c10=>?_) (fun c10=>?_)
     · have E:=iT c10 E
       refine rg (v_ z (mv (.int .i32 a0) z) (v_ z (r_sub z z) (v_ z (r_conv z Tryz.underlying21 Tryz.underlying5) (v_ z (r_add z z) (v_ z (sg (.int .u8 (u8.wrap ((u8.wrap (i32.wrap (a0 - 97))) + 10))) z) (v_ z (sg (.bool true) z) (nl (wc_ret ?_))))))))
       cases E
       exact (r_bk (r_thn ⟨.inl z,_,tk0 z ⟨resN z (rv_t (rv_t rv_nil)),z,H.sub0⟩⟩))
     · have E:=iF c10 E
       refine wc_skip (n_bk (n_thn (rg (v_ z (sg (.int .u8 0) z) (v_ z (sg (.bool false) z) (nl (wc_ret ?_)))))))
       cases E
       exact ⟨.inl z,_,tk0 z ⟨resN z (rv_t (rv_t rv_nil)),z,H.sub0⟩⟩
   · have E:=iF c9 E
     refine off_ c9 z z z (off_ c9 z z z (v_ z (pF (.bool false) z z c9) (v_ z (sg (.bool false) z) (nl (wc_condF z (wc_skip (n_bk (n_thn (rg (v_ z (sg (.int .u8 0) z) (v_ z (sg (.bool false) z) (nl (wc_ret ?_)))))))))))))
     cases E
     exact ⟨.inl z,_,tk0 z ⟨resN z (rv_t (rv_t rv_nil)),z,H.sub0⟩⟩
def play_unhex.l0 : Nat → ByteArray → List (Int) → Nat → Option (List Int × Bool)
 | 0,_,_,_=>none
 | k + 1,a0,l21,l22=>bif decide (l22 < a0.size) then ((play_half.f (dcC a0 l22)).bind fun x36=>bif !x36.2 then (some (([] : List (Int)),false)) else (grd (decide ((0 : Int) ≤ i64.wrap (Int.tdiv (l22 : Int) 2) ∧ i64.wrap (Int.tdiv (l22 : Int) 2) < (l21.length : Int))) (grd (decide ((0 : Int) ≤ i64.wrap (Int.tdiv (l22 : Int) 2) ∧ i64.wrap (Int.tdiv (l22 : Int) 2) < (l21.length : Int))) (play_unhex.l0 k a0 (l21.set (i64.wrap (Int.tdiv (l22 : Int) 2)).toNat (bits .or .u8 (u8.wrap ((at_ 0 l21 (i64.wrap (Int.tdiv (l22 : Int) 2))) * 2 ^ (min (4 : Int).toNat 8))) x36.1)) (l22 + dcW a0 l22))))) else (some (l21,true))
def play_unhex.f (k : Nat) (a0 : ByteArray) : Option (List Int × Bool):=bif decide (a0 = P_str4) then (some (([] : List (Int)),true)) else (bif decide (a0 = P_str0) then (some (([] : List (Int)),false)) else (bif decide (Int.tmod (a0.size : Int) 2 = 1) then (some (([] : List (Int)),false)) else (grd (decide ((0 : Int) ≤ i64.wrap (Int.tdiv (a0.size : Int) 2) ∧ i64.wrap (Int.tdiv (a0.size : Int) 2) ≤ i64.wrap (Int.tdiv (a0.size : Int) 2) ∧ i64.wrap (Int.tdiv (a0.size : Int) 2) ≤ 140737488355328)) (play_unhex.l0 k a0 (List.replicate (i64.wrap (Int.tdiv (a0.size : Int) 2)).toNat (0 : Int)) 0))))
theorem play_unhex.calls {w0 : World} {k : Nat} {a0 : ByteArray} {r : List Int × Bool}  (E : play_unhex.f k a0 = some r) :
   Calls Tryz.prog 41 #[.string a0] w0 fun e w'=>∃ (u0 : Value),e = .returned (.tuple #[u0,.bool r.2]) ∧ St no w0 w' [.own (.int .u8) 5 u0 r.1]:=by
 have H:=St.nil no w0
 unfold play_unhex.f at E
 refine calls_of_wc (N:=49) (args:=[.string a0]) Tryz.func41 z z (by simp) ?_
 refine rg (v_ z (sg (.slice none 0 0) z) (v_ z (sg (.bool false) z) (nl (wc_seq (rg (v_ z (mv (.string a0) z) (v_ z (r_seql z z) (nl ?_))))))))
 refine wc_cond z (fun c2=>?_) (fun c2=>?_)
 · have E:=iT c2 E
   refine rg (v_ z (sg (.slice none 0 0) z) (v_ z (sg (.bool true) z) (nl (wc_ret ?_))))
   have H:=H.nilOwn (.int .u8) 5
   cases E
   exact (r_thn ⟨.inl z,_,tk0 z ⟨resN z (rv_t (rv_t rv_nil)),_,z,H.sub1 0 z⟩⟩)
 · have E:=iF c2 E
   refine wc_skip (n_thn (wc_seq (rg (v_ z (mv (.string a0) z) (v_ z (r_seql z z) (v_ z (mv (.bool (decide (a0 = P_str0))) z) ?_))))))
   rcases Bool.eq_false_or_eq_true (decide (a0 = P_str0)) with c5 | c5
   · have E:=iT c5 E
     refine off_ c5 z z z (off_ c5 z z z (off_ c5 z z z (off_ c5 z z z (v_ z (pT (.bool true) z z c5) (nl (wc_condT z (rg (v_ z (sg (.slice none 0 0) z) (v_ z (sg (.bool false) z) (nl (wc_ret ?_)))))))))))
     have H:=H.nilOwn (.int .u8) 5
     cases E
     exact (r_thn ⟨.inl z,_,tk0 z ⟨resN z (rv_t (rv_t rv_nil)),_,z,H.sub1 0 z⟩⟩)
   · have E:=iF c5 E
     refine on_ c5 z z (mv (.string a0) z) (on_ c5 z z (r_lenS P_cvl_9 z) (on_ c5 z z (r_rem z z (by decide)) (on_ c5 z z (r_eql z z) (v_ z (pF (.bool (decide (Int.tmod (a0.size : Int) 2 = 1))) z z c5) (nl ?_)))))
     refine wc_cond z (fun c6=>?_) (fun c6=>?_)
     · have E:=iT c6 E
       refine rg (v_ z (sg (.slice none 0 0) z) (v_ z (sg (.bool false) z) (nl (wc_ret ?_))))
       have H:=H.nilOwn (.int .u8) 5
       cases E
       exact (r_thn ⟨.inl z,_,tk0 z ⟨resN z (rv_t (rv_t rv_nil)),_,z,H.sub1 0 z⟩⟩)
     · have E:=iF c6 E
       refine wc_skip (n_thn (rg (v_ z (mv (.string a0) z) (v_ z (r_lenS P_cvl_9 z) (v_ z (r_quo z z (by decide)) ?_)))))
       obtain ⟨⟨g8,g9,g10⟩,E⟩:=grd_some E
       refine e_ z (y_make (e:=(.int .u8)) (z0:=0) P_sl_22 z H z z g8 g9 (by omega) (by omega) (fun v7 w H=>(v_ z (sg v7 z) (nl (wc_seq (rg (v_ z (mv (.string a0) z) (e_ z (y_range Tryz.underlying9 H z (fun b11 w H=>(nl (wc_block ?_))))))))))))
       refine wc_loop (fun kk t w=>∃ (l21 : List (Int)) (l22 : Nat) (t34 : Fr),kk ≤ k ∧ play_unhex.l0 kk a0 l21 l22 = some r ∧ t = upds t34 [(2,.slice none 0 0),(3,.bool false),(4,v7),(24,pt b11),(1000000,undef)] ∧ St no w0 w [.own (.int .u8) 5 v7 l21,.itr b11 a0 l22]) k ?_ ?_
       · exact ⟨_,_,_,Nat.le_refl _,E,upds_eq ⟨z,z,z,z,z,trivial⟩,H⟩
       rintro kk t w ⟨l21,l22,t34,hk33,E,rfl,H⟩
       obtain ⟨k32,rfl⟩ | rfl : (∃ k',kk = k' + 1) ∨ kk = 0:=by cases kk; exact .inr rfl; exact .inl ⟨_,rfl⟩
       rotate_left
       · cases E
       rw [play_unhex.l0] at E
       refine rg ?_
       rcases Bool.eq_false_or_eq_true (decide (l22 < a0.size)) with c35 | c35
       · have E:=iT c35 E
         refine e_ z (y_nextT H 1 z z c35 (fun w H=>(v_ z (r_extract z z) (nl (wc_seq (wc_condT z (wc_skip (n_thn (wc_block (rg (v_ z (r_extract z z) (v_ z (r_extract z z) (v_ z (sg (.int .i64 (l22 : Int)) z) (v_ z (sg (.int .i32 (dcC a0 l22)) z) (nl (rg (v_ z (mv (.int .i32 (dcC a0 l22)) z) ?_)))))))))))))))))
         obtain ⟨x36,E37,E⟩:=bind_some E
         refine e_ z (y_callL P_en_67 z ((play_half.calls E37).mono ?_))
         rintro _ w ⟨rfl,K⟩
         have H:=H.app K
         refine ⟨_,z,(v_ z (r_move) (v_ z (r_extract z z) (v_ z (r_extract z z) (v_ z (sg (.int .u8 x36.1) z) (v_ z (sg (.bool x36.2) z) (nl (wc_seq (rg (v_ z (mv (.bool x36.2) z) (v_ z (r_not z) (nl ?_)))))))))))⟩
         refine wc_cond z (fun c39=>?_) (fun c39=>?_)
         · have E:=iT c39 E
           refine rg (v_ z (sg (.slice none 0 0) z) (v_ z (sg (.bool false) z) (nl (wc_ret ?_))))
           have H:=H.nilOwn (.int .u8) 5
           cases E
           exact (r_thn (r_bk (r_thn (r_bk (r_thn ⟨.inl z,_,tk0 z ⟨resN z (rv_t (rv_t rv_nil)),_,z,H.sub1 2 z⟩⟩)))))
         · have E:=iF c39 E
           refine wc_skip (n_thn (wc_region (v_ z (mv v7 z) (v_ z (mv (.int .i64 (l22 : Int)) z) (v_ z (r_quo z z (by decide)) (v_ z (mv v7 z) (v_ z (mv (.int .i64 (l22 : Int)) z) (v_ z (r_quo z z (by decide)) ?_))))))))
           obtain ⟨⟨g40,g41⟩,E⟩:=grd_some E
           refine v_ z (r_idx P_sl_22 (own_rd (H.get 0 z)) z z g40 g41) (v_ z (r_ldI P_sc_5 (own_rd (H.get 0 z)) g40 g41 z) (v_ z (r_shl z z (by decide)) (v_ z (mv (.int .u8 x36.1) z) (v_ z (r_or z z) ?_))))
           obtain ⟨⟨g42,g43⟩,E⟩:=grd_some E
           refine v_ z (r_idx P_sl_22 (own_rd (H.get 0 z)) z z g42 g43) (s_ (y_storeI P_sz_5 H 0 z g42 g43 z z (fun w H=>(wl_nil (n_bk ?_)))))
           exact ⟨k32,Nat.lt_succ_self _,_,_,_,Nat.le_of_succ_le hk33,E,upds_eq ⟨z,z,z,z,z,trivial⟩,H⟩
       · have E:=iF c35 E
         refine v_ z (y_nextF (H.get 1 z) z c35) (v_ z (r_extract z z) (nl (wc_seq (wc_condF z (wc_exit (x_thn (x_thn (x_bk (n_thn (rg (v_ z (mv v7 z) (v_ z (sg v7 z) (v_ z (sg (.bool true) z) (nl (wc_ret ?_)))))))))))))))
         cases E
         exact ⟨.inl z,_,tk0 z ⟨resN z (rv_t (rv_t rv_nil)),_,z,H.sub1 0 z⟩⟩
def law24_Line.f (a0 : Int × Int × Int) : Option (ByteArray):=(strconv_Itoa.f a0.1).bind fun x2=>grd (decide ((P_str8.size + x2.size : Nat) ≤ 140737488355328)) (grd (decide (((cat P_str8 x2).size + P_str5.size : Nat) ≤ 140737488355328)) ((strconv_Itoa.f a0.2.1).bind fun x6=>grd (decide (((cat (cat P_str8 x2) P_str5).size + x6.size : Nat) ≤ 140737488355328)) (grd (decide (((cat (cat (cat P_str8 x2) P_str5) x6).size + P_str5.size : Nat) ≤ 140737488355328)) ((strconv_Itoa.f a0.2.2).bind fun x10=>grd (decide (((cat (cat (cat (cat P_str8 x2) P_str5) x6) P_str5).size + x10.size : Nat) ≤ 140737488355328)) (grd (decide (((cat (cat (cat (cat (cat P_str8 x2) P_str5) x6) P_str5) x10).size + P_str9.size : Nat) ≤ 140737488355328)) (some (cat (cat (cat (cat (cat (cat P_str8 x2) P_str5) x6) P_str5) x10) P_str9)))))))
theorem law24_Line.calls {w0 : World} {a0 : Int × Int × Int} {r : ByteArray} (hf : (Rs.lv ).inv w0) (E : law24_Line.f a0 = some r) :
   Calls Tryz.prog 10 #[.agg #[.int .i64 a0.1,.int .i64 a0.2.1,.int .i64 a0.2.2]] w0 fun e w'=>e = .returned (.string r) ∧ St (Rs.lv ).fp w0 w' [.lv]:=by
 have H:=St.start hf
 unfold law24_Line.f at E
 refine calls_of_wc (N:=18) (args:=[.agg #[.int .i64 a0.1,.int .i64 a0.2.1,.int .i64 a0.2.2]]) Tryz.func10 z z (by simp) ?_
 refine rg (e_ z (y_boxS (cs:=#[.int .i64 a0.1,.int .i64 a0.2.1,.int .i64 a0.2.2]) H z (fun b1 w H=>(v_ z (sg (.string P_str0) z) (nl (wc_seq (wc_drawnS (ds:=[]) P_mo H z z ?_)))))))
 have H:=H.drew
 refine wt 0 (tf 1 16) z z z (by kernel_rfl) H (fun w H=>(r_faddr P_fa_24_0 z)) (wt 1 (tf 2 16) z z z (by kernel_rfl) H (fun w H=>(r_load P_sc_3 z (blk_cell (H.get 1 z) z))) (wt 5 #[true,true,false,false,false,true,false,false,false,false,false,false,false,false,false,false] z z z (by kernel_rfl) H (fun w H=>(r_faddr P_fa_24_1 z)) (wt 6 #[true,true,false,false,false,true,true,false,false,false,false,false,false,false,false,false] z z z (by kernel_rfl) H (fun w H=>(r_load P_sc_3 z (blk_cell (H.get 1 z) z))) (wt 10 #[true,true,false,false,false,true,true,false,false,false,true,false,false,false,false,false] z z z (by kernel_rfl) H (fun w H=>(r_faddr P_fa_24_2 z)) (wt 11 #[true,true,false,false,false,true,true,false,false,false,true,true,false,false,false,false] z z z (by kernel_rfl) H (fun w H=>(r_load P_sc_3 z (blk_cell (H.get 1 z) z))) ?_)))))
 obtain ⟨x2,E3,E⟩:=bind_some E
 refine wa_one (i:=2) (l':=#[true,true,true,false,false,true,true,false,false,false,true,true,false,false,false,false]) z z z (by kernel_rfl) (y_callL P_en_32 z ((strconv_Itoa.calls (H.get 0 z) E3).mono ?_))
 rintro _ w ⟨rfl,K⟩
 have H:=H.appX 0 z K
 refine ⟨_,z,⟨fun _=>H.sel [0,1] z z,?_⟩⟩
 obtain ⟨g4,E⟩:=grd_some E
 refine wt 3 #[true,true,true,true,false,true,true,false,false,false,true,true,false,false,false,false] z z z (by kernel_rfl) (H.sel [0,1] z z) (fun w H=>(r_cat z z g4)) ?_
 obtain ⟨g5,E⟩:=grd_some E
 refine wt 4 #[true,true,true,true,true,true,true,false,false,false,true,true,false,false,false,false] z z z (by kernel_rfl) (H.sel [0,1] z z) (fun w H=>(r_cat z z g5)) ?_
 obtain ⟨x6,E7,E⟩:=bind_some E
 refine wa_one (i:=7) (l':=#[true,true,true,true,true,true,true,true,false,false,true,true,false,false,false,false]) z z z (by kernel_rfl) (y_callL P_en_32 z ((strconv_Itoa.calls (H.get 0 z) E7).mono ?_))
 rintro _ w ⟨rfl,K⟩
 have H:=H.appX 0 z K
 refine ⟨_,z,⟨fun _=>H.sel [0,1] z z,?_⟩⟩
 obtain ⟨g8,E⟩:=grd_some E
 refine wt 8 #[true,true,true,true,true,true,true,true,true,false,true,true,false,false,false,false] z z z (by kernel_rfl) (H.sel [0,1] z z) (fun w H=>(r_cat z z g8)) ?_
 obtain ⟨g9,E⟩:=grd_some E
 refine wt 9 (tf 12 16) z z z (by kernel_rfl) (H.sel [0,1] z z) (fun w H=>(r_cat z z g9)) ?_
 obtain ⟨x10,E11,E⟩:=bind_some E
 refine wa_one (i:=12) (l':=(tf 13 16)) z z z (by kernel_rfl) (y_callL P_en_32 z ((strconv_Itoa.calls (H.get 0 z) E11).mono ?_))
 rintro _ w ⟨rfl,K⟩
 have H:=H.appX 0 z K
 refine ⟨_,z,⟨fun _=>H.sel [0,1] z z,?_⟩⟩
 obtain ⟨g12,E⟩:=grd_some E
 refine wt 13 (tf 14 16) z z z (by kernel_rfl) (H.sel [0,1] z z) (fun w H=>(r_cat z z g12)) ?_
 obtain ⟨g13,E⟩:=grd_some E
 refine wt 14 (tf 15 16) z z z (by kernel_rfl) (H.sel [0,1] z z) (fun w H=>(r_cat z z g13)) (wt 15 (tf 16 16) z z z (by kernel_rfl) (H.sel [0,1] z z) (fun w H=>(sg (.string (cat (cat (cat (cat (cat (cat P_str8 x2) P_str5) x6) P_str5) x10) P_str9)) z)) (wa_done (by kernel_rfl) (n_thn (wc_ret ?_))))
 cases E
 exact ⟨.inl z,_,tk0 z ⟨resN z (rv_t rv_nil),z,H.sub1 0 z⟩⟩
def ref24_Hex.l0 : Nat → List Int → ByteArray → Int → Option (ByteArray)
 | 0,_,_,_=>none
 | k + 1,a0,x21,x22=>bif decide (x22 < (a0.length : Int)) then (grd (decide ((0 : Int) ≤ x22 ∧ x22 < (a0.length : Int))) (grd (decide ((0 : Int) ≤ x22 ∧ x22 < (a0.length : Int))) (grd (decide ((0 : Int) ≤ u8.wrap (Int.tdiv (at_ 0 a0 x22) 16) ∧ u8.wrap (Int.tdiv (at_ 0 a0 x22) 16) ≤ u8.wrap ((u8.wrap (Int.tdiv (at_ 0 a0 x22) 16)) + 1) ∧ u8.wrap ((u8.wrap (Int.tdiv (at_ 0 a0 x22) 16)) + 1) ≤ (P_str10.size : Int))) (grd (decide ((x21.size + (ext P_str10 (u8.wrap (Int.tdiv (at_ 0 a0 x22) 16)) (u8.wrap ((u8.wrap (Int.tdiv (at_ 0 a0 x22) 16)) + 1))).size : Nat) ≤ 140737488355328)) (grd (decide ((0 : Int) ≤ x22 ∧ x22 < (a0.length : Int))) (grd (decide ((0 : Int) ≤ x22 ∧ x22 < (a0.length : Int))) (grd (decide ((0 : Int) ≤ Int.tmod (at_ 0 a0 x22) 16 ∧ Int.tmod (at_ 0 a0 x22) 16 ≤ u8.wrap ((Int.tmod (at_ 0 a0 x22) 16) + 1) ∧ u8.wrap ((Int.tmod (at_ 0 a0 x22) 16) + 1) ≤ (P_str10.size : Int))) (grd (decide (((cat x21 (ext P_str10 (u8.wrap (Int.tdiv (at_ 0 a0 x22) 16)) (u8.wrap ((u8.wrap (Int.tdiv (at_ 0 a0 x22) 16)) + 1)))).size + (ext P_str10 (Int.tmod (at_ 0 a0 x22) 16) (u8.wrap ((Int.tmod (at_ 0 a0 x22) 16) + 1))).size : Nat) ≤ 140737488355328)) (ref24_Hex.l0 k a0 (cat (cat x21 (ext P_str10 (u8.wrap (Int.tdiv (at_ 0 a0 x22) 16)) (u8.wrap ((u8.wrap (Int.tdiv (at_ 0 a0 x22) 16)) + 1)))) (ext P_str10 (Int.tmod (at_ 0 a0 x22) 16) (u8.wrap ((Int.tmod (at_ 0 a0 x22) 16) + 1)))) (i64.wrap (x22 + 1))))))))))) else (some x21)
def ref24_Hex.f (k : Nat) (a0 : List Int) : Option (ByteArray):=bif decide ((a0.length : Int) = 0) then (some P_str4) else (ref24_Hex.l0 k a0 P_str0 0)
theorem ref24_Hex.calls {w0 : World} {k : Nat} {a0 : List Int} {v0_ : Value} {r : ByteArray} (h0 : Rd (.of (.int .u8)) w0 (Ol no w0) v0_ a0) (E : ref24_Hex.f k a0 = some r) :
   Calls Tryz.prog 7 #[v0_] w0 fun e w'=>e = .returned (.string r) ∧ St no w0 w' []:=by
 have H:=St.nil no w0
 unfold ref24_Hex.f at E
 refine calls_of_wc (N:=42) (args:=[v0_]) Tryz.func7 z z (by simp) ?_
 refine rg (v_ z (sg (.string P_str0) z) (nl (wc_seq (rg (v_ z (mv v0_ z) (v_ z (r_lenR P_ul_22 (H.rd h0) z) (v_ z (r_eql z z) (nl ?_))))))))
 refine wc_cond z (fun c2=>?_) (fun c2=>?_)
 · have E:=iT c2 E
   refine rg (v_ z (sg (.string P_str4) z) (nl (wc_ret ?_)))
   cases E
   exact (r_thn ⟨.inl z,_,tk0 z ⟨resN z (rv_t rv_nil),z,H.sub0⟩⟩)
 · have E:=iF c2 E
   refine wc_skip (n_thn (rg (v_ z (sg (.string P_str0) z) (nl (wc_seq (rg (v_ z (sg (.int .i64 0) z) (nl (wc_block ?_)))))))))
   refine wc_loop (fun kk t w=>∃ (x21 : ByteArray) (x22 : Int) (t43 : Fr),kk ≤ k ∧ ref24_Hex.l0 kk a0 x21 x22 = some r ∧ t = upds t43 [(0,v0_),(2,.string P_str0),(3,.string x21),(4,.int .i64 x22),(1000000,undef)] ∧ St no w0 w []) k ?_ ?_
   · exact ⟨_,_,_,Nat.le_refl _,E,upds_eq ⟨z,z,z,z,z,trivial⟩,H⟩
   rintro kk t w ⟨x21,x22,t43,hk42,E,rfl,H⟩
   obtain ⟨k41,rfl⟩ | rfl : (∃ k',kk = k' + 1) ∨ kk = 0:=by cases kk; exact .inr rfl; exact .inl ⟨_,rfl⟩
   rotate_left
   · cases E
   rw [ref24_Hex.l0] at E
   refine wc_seq (rg (v_ z (mv (.int .i64 x22) z) (v_ z (mv v0_ z) (v_ z (r_lenR P_ul_22 (H.rd h0) z) (v_ z (r_lss z z) (nl ?_))))))
   refine wc_cond z (fun c45=>?_) (fun c45=>?_)
   · have E:=iT c45 E
     refine wc_skip (n_thn (wc_seq (wc_block (wc_drawnS (ds:=[]) P_mo H z z ?_))))
     have H:=H.drew
     refine wt 0 (tf 1 28) z z z (by kernel_rfl) H (fun w H=>(mv (.string x21) z)) (wt 1 (tf 2 28) z z z (by kernel_rfl) H (fun w H=>(mv v0_ z)) (wt 2 (tf 3 28) z z z (by kernel_rfl) H (fun w H=>(mv (.int .i64 x22) z)) ?_))
     obtain ⟨⟨g46,g47⟩,E⟩:=grd_some E
     refine wt 3 (tf 4 28) z z z (by kernel_rfl) H (fun w H=>(r_idx P_sl_22 (H.rd h0) z z g46 g47)) (wt 4 (tf 5 28) z z z (by kernel_rfl) H (fun w H=>(r_ldI P_sc_5 (H.rd h0) g46 g47 z)) (wt 5 (tf 6 28) z z z (by kernel_rfl) H (fun w H=>(r_quo z z (by decide))) (wt 6 (tf 7 28) z z z (by kernel_rfl) H (fun w H=>(mv v0_ z)) (wt 7 (tf 8 28) z z z (by kernel_rfl) H (fun w H=>(mv (.int .i64 x22) z)) ?_))))
     obtain ⟨⟨g48,g49⟩,E⟩:=grd_some E
     refine wt 8 (tf 9 28) z z z (by kernel_rfl) H (fun w H=>(r_idx P_sl_22 (H.rd h0) z z g48 g49)) (wt 9 (tf 10 28) z z z (by kernel_rfl) H (fun w H=>(r_ldI P_sc_5 (H.rd h0) g48 g49 z)) (wt 10 (tf 11 28) z z z (by kernel_rfl) H (fun w H=>(r_quo z z (by decide))) (wt 11 (tf 12 28) z z z (by kernel_rfl) H (fun w H=>(r_add z z)) ?_)))
     obtain ⟨⟨g50,g51,g52⟩,E⟩:=grd_some E
     refine wt 12 (tf 13 28) z z z (by kernel_rfl) H (fun w H=>(r_sslc Tryz.underlying9 z z z g50 g51 g52)) ?_
     obtain ⟨g53,E⟩:=grd_some E
     refine wt 13 (tf 14 28) z z z (by kernel_rfl) H (fun w H=>(r_cat z z g53)) (wt 14 (tf 15 28) z z z (by kernel_rfl) H (fun w H=>(mv v0_ z)) (wt 15 (tf 16 28) z z z (by kernel_rfl) H (fun w H=>(mv (.int .i64 x22) z)) ?_))
     obtain ⟨⟨g54,g55⟩,E⟩:=grd_some E
     refine wt 16 (tf 17 28) z z z (by kernel_rfl) H (fun w H=>(r_idx P_sl_22 (H.rd h0) z z g54 g55)) (wt 17 (tf 18 28) z z z (by kernel_rfl) H (fun w H=>(r_ldI P_sc_5 (H.rd h0) g54 g55 z)) (wt 18 (tf 19 28) z z z (by kernel_rfl) H (fun w H=>(r_rem z z (by decide))) (wt 19 (tf 20 28) z z z (by kernel_rfl) H (fun w H=>(mv v0_ z)) (wt 20 (tf 21 28) z z z (by kernel_rfl) H (fun w H=>(mv (.int .i64 x22) z)) ?_))))
     obtain ⟨⟨g56,g57⟩,E⟩:=grd_some E
     refine wt 21 (tf 22 28) z z z (by kernel_rfl) H (fun w H=>(r_idx P_sl_22 (H.rd h0) z z g56 g57)) (wt 22 (tf 23 28) z z z (by kernel_rfl) H (fun w H=>(r_ldI P_sc_5 (H.rd h0) g56 g57 z)) (wt 23 (tf 24 28) z z z (by kernel_rfl) H (fun w H=>(r_rem z z (by decide))) (wt 24 (tf 25 28) z z z (by kernel_rfl) H (fun w H=>(r_add z z)) ?_)))
     obtain ⟨⟨g58,g59,g60⟩,E⟩:=grd_some E
     refine wt 25 (tf 26 28) z z z (by kernel_rfl) H (fun w H=>(r_sslc Tryz.underlying9 z z z g58 g59 g60)) ?_
     obtain ⟨g61,E⟩:=grd_some E
     refine wt 26 (tf 27 28) z z z (by kernel_rfl) H (fun w H=>(r_cat z z g61)) (wt 27 (tf 28 28) z z z (by kernel_rfl) H (fun w H=>(sg (.string (cat (cat x21 (ext P_str10 (u8.wrap (Int.tdiv (at_ 0 a0 x22) 16)) (u8.wrap ((u8.wrap (Int.tdiv (at_ 0 a0 x22) 16)) + 1)))) (ext P_str10 (Int.tmod (at_ 0 a0 x22) 16) (u8.wrap ((Int.tmod (at_ 0 a0 x22) 16) + 1))))) z)) (wa_done (by kernel_rfl) (n_bk (n_thn (wc_region (v_ z (mv (.int .i64 x22) z) (v_ z (r_add z z) (v_ z (sg (.int .i64 (i64.wrap (x22 + 1))) z) (wl_nil ?_)))))))))
     exact ⟨k41,Nat.lt_succ_self _,_,_,_,Nat.le_of_succ_le hk42,E,upds_eq ⟨z,z,z,z,z,trivial⟩,H⟩
   · have E:=iF c45 E
     refine wc_exit (x_thn (x_thn (x_bk (n_thn (rg (v_ z (mv (.string x21) z) (v_ z (sg (.string x21) z) (nl (wc_ret ?_)))))))))
     cases E
     exact ⟨.inl z,_,tk0 z ⟨resN z (rv_t rv_nil),z,H.sub0⟩⟩
def r_str1 : ByteArray:=⟨#[]⟩
theorem r_ul_50 : ((#[50] : Array TypeId)[0]?).bind Tryz.prog.underlying = some (.slice 9):=bind_ul Tryz.underlying50
theorem r_sl_50 : Sl Tryz.prog 50 9 1 16 (.string ByteArray.empty):=sl_of Tryz.underlying50 (by kernel_rfl) z (by decide)
theorem r_en_37 : En Tryz.prog 37:=⟨_,_,Tryz.func37,by kernel_rfl,z⟩
theorem r_sc_9 : Sc Tryz.prog 9:=⟨_,Tryz.underlying9,z⟩
theorem r_en_41 : En Tryz.prog 41:=⟨_,_,Tryz.func41,by kernel_rfl,z⟩
theorem r_en_38 : En Tryz.prog 38:=⟨_,_,Tryz.func38,by kernel_rfl,z⟩
theorem r_en_40 : En Tryz.prog 40:=⟨_,_,Tryz.func40,by kernel_rfl,z⟩
theorem r_en_42 : En Tryz.prog 42:=⟨_,_,Tryz.func42,by kernel_rfl,z⟩
theorem r_zr_24 : Zr Tryz.prog 24 #[.int .i64 0,.int .i64 0,.int .i64 0]:=⟨.agg #[.int .i64 0,.int .i64 0,.int .i64 0],by kernel_rfl,z⟩
theorem r_bd_24 : Bd Tryz.prog 24 #[.int .i64 0,.int .i64 0,.int .i64 0] [(0,1),(1,1),(2,1)]:=⟨_,.agg #[.int .i64 0,.int .i64 0,.int .i64 0],Tryz.underlying24,by kernel_rfl,z,fun w=>by kernel_rfl⟩
theorem r_sz_24 : Sz Tryz.prog 24 3:=by show _ = _; kernel_rfl
theorem r_en_17 : En Tryz.prog 17:=⟨_,_,Tryz.func17,by kernel_rfl,z⟩
theorem r_bd_89 : Bd Tryz.prog 89 #[.int .u32 0,.int .i32 0,.int .u32 0,.int .i32 0,.pointer none,.int .u32 0,.int .i32 0,.int .u32 0,.int .i32 0,.pointer none,.int .u32 0,.int .i32 0,.int .u32 0,.int .i32 0,.pointer none,.int .u32 0,.int .i32 0,.int .u32 0,.int .i32 0,.pointer none,.int .i64 0,.int .i64 0,.int .i64 0,.int .i64 0,.int .i64 0,.int .i64 0,.int .i64 0,.int .i64 0,.int .i64 0,.int .i64 0,.int .i64 0,.int .i64 0,.int .i64 0,.int .i64 0,.int .i64 0,.int .i64 0] [(0,20),(20,16)]:=⟨_,.agg #[.int .u32 0,.int .i32 0,.int .u32 0,.int .i32 0,.pointer none,.int .u32 0,.int .i32 0,.int .u32 0,.int .i32 0,.pointer none,.int .u32 0,.int .i32 0,.int .u32 0,.int .i32 0,.pointer none,.int .u32 0,.int .i32 0,.int .u32 0,.int .i32 0,.pointer none,.int .i64 0,.int .i64 0,.int .i64 0,.int .i64 0,.int .i64 0,.int .i64 0,.int .i64 0,.int .i64 0,.int .i64 0,.int .i64 0,.int .i64 0,.int .i64 0,.int .i64 0,.int .i64 0,.int .i64 0,.int .i64 0],Tryz.underlying89,by kernel_rfl,z,fun w=>by kernel_rfl⟩
theorem r_bd_47 : Bd Tryz.prog 47 #[.pointer none,.int .i64 0,.int .i64 0,.int .i64 0,.int .i64 0,.int .i64 0,.slice none 0 0,.slice none 0 0] [(0,1),(1,3),(4,2),(6,1),(7,1)]:=⟨_,.agg #[.pointer none,.int .i64 0,.int .i64 0,.int .i64 0,.int .i64 0,.int .i64 0,.slice none 0 0,.slice none 0 0],Tryz.underlying47,by kernel_rfl,z,fun w=>by kernel_rfl⟩
def r_str4 : ByteArray:=⟨#[99,111,100,101]⟩
def r_str5 : ByteArray:=⟨#[112,105,99,107]⟩
def r_str6 : ByteArray:=⟨#[101,110,99,111,100,101]⟩
def r_str7 : ByteArray:=⟨#[100,101,99,111,100,101]⟩
def r_str8 : ByteArray:=⟨#[115,121,110,100]⟩
def r_str9 : ByteArray:=⟨#[115,101,110,100]⟩
def r_str10 : ByteArray:=⟨#[98,117,114,115,116]⟩
def r_str11 : ByteArray:=⟨#[102,108,97,103]⟩
def r_str12 : ByteArray:=⟨#[116,97,107,101]⟩
def r_str13 : ByteArray:=⟨#[97,115,107,101,100]⟩
def r_str14 : ByteArray:=⟨#[10]⟩
theorem r_en_28 : En Tryz.prog 28:=⟨_,_,Tryz.func28,by kernel_rfl,z⟩
theorem r_en_29 : En Tryz.prog 29:=⟨_,_,Tryz.func29,by kernel_rfl,z⟩
theorem r_zr_55 : Zr Tryz.prog 55 #[.pointer none,.slice none 0 0]:=⟨.agg #[.pointer none,.slice none 0 0],by kernel_rfl,z⟩
def r_str15 : ByteArray:=⟨#[32]⟩
def r_str16 : ByteArray:=⟨#[98,97,100]⟩
theorem r_zf_48 : (Tryz.prog.info? 48).bind (·.zero) = some .nilFunc:=by kernel_rfl
theorem r_en_18 : En Tryz.prog 18:=⟨_,_,Tryz.func18,by kernel_rfl,z⟩
theorem r_en_39 : En Tryz.prog 39:=⟨_,_,Tryz.func39,by kernel_rfl,z⟩
theorem r_fa_47_1 : Fa Tryz.prog 47 1 1:=⟨_,_,Tryz.underlying47,z,z,2,by kernel_rfl⟩
def r_str17 : ByteArray:=⟨#[111,107]⟩
theorem r_en_30 : En Tryz.prog 30:=⟨_,_,Tryz.func30,by kernel_rfl,z⟩
theorem r_en_19 : En Tryz.prog 19:=⟨_,_,Tryz.func19,by kernel_rfl,z⟩
theorem r_fa_47_2 : Fa Tryz.prog 47 2 4:=⟨_,_,Tryz.underlying47,z,z,1,by kernel_rfl⟩
theorem r_en_20 : En Tryz.prog 20:=⟨_,_,Tryz.func20,by kernel_rfl,z⟩
theorem r_fa_47_0 : Fa Tryz.prog 47 0 0:=⟨_,_,Tryz.underlying47,z,z,0,by kernel_rfl⟩
theorem r_sc_41 : Sc Tryz.prog 41:=⟨_,Tryz.underlying41,z⟩
theorem r_en_43 : En Tryz.prog 43:=⟨_,_,Tryz.func43,by kernel_rfl,z⟩
theorem r_en_21 : En Tryz.prog 21:=⟨_,_,Tryz.func21,by kernel_rfl,z⟩
theorem r_en_44 : En Tryz.prog 44:=⟨_,_,Tryz.func44,by kernel_rfl,z⟩
theorem r_fa_101_1 : Fa Tryz.prog 101 1 1:=⟨_,_,Tryz.underlying101,z,z,0,by kernel_rfl⟩
theorem r_fa_101_0 : Fa Tryz.prog 101 0 0:=⟨_,_,Tryz.underlying101,z,z,0,by kernel_rfl⟩
theorem r_fa_101_2 : Fa Tryz.prog 101 2 2:=⟨_,_,Tryz.underlying101,z,z,0,by kernel_rfl⟩
def r_str18 : ByteArray:=⟨#[44]⟩
theorem r_en_46 : En Tryz.prog 46:=⟨_,_,Tryz.func46,by kernel_rfl,z⟩
theorem r_en_45 : En Tryz.prog 45:=⟨_,_,Tryz.func45,by kernel_rfl,z⟩
theorem r_en_31 : En Tryz.prog 31:=⟨_,_,Tryz.func31,by kernel_rfl,z⟩
end Go.Proofs.YtkndgkbgbmhjoaaGreatDoor.Gw
