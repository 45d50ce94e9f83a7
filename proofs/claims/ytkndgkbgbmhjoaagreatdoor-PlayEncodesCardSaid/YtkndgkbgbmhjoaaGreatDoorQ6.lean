/- The card of the law that what a desk encodes is read back from what it tells: a part of its proof. The conditions are those of the statement. -/
import Derived.Test.YtkndgkbgbmhjoaaGreatDoorQ3
import Derived.Test.YtkndgkbgbmhjoaaGreatDoorQ5
import Derived.Test.YtkndgkbgbmhjoaaGreatDoorProg
namespace Go.Proofs.YtkndgkbgbmhjoaaGreatDoor.Gw
open Go Go.RowKit
set_option linter.unusedVariables false
set_option linter.unusedSimpArgs false
set_option linter.unusedSectionVars false
variable [LibO]
set_option linter.unnecessarySimpa false
set_option maxRecDepth 100000
set_option maxHeartbeats 4000000
open Go.IntKind (i8 i16 i32 i64 u8 u16 u32 u64)
theorem h_sl_22 : Sl Tryz.prog 22 5 1 1 (.int .u8 0):=sl_of Tryz.underlying22 (by kernel_rfl) z (by decide)
def h_str0 : ByteArray:=⟨#[0,1,2,2,3,3,3,3,4,4,4,4,4,4,4,4,5,5,5,5,5,5,5,5,5,5,5,5,5,5,5,5,6,6,6,6,6,6,6,6,6,6,6,6,6,6,6,6,6,6,6,6,6,6,6,6,6,6,6,6,6,6,6,6,7,7,7,7,7,7,7,7,7,7,7,7,7,7,7,7,7,7,7,7,7,7,7,7,7,7,7,7,7,7,7,7,7,7,7,7,7,7,7,7,7,7,7,7,7,7,7,7,7,7,7,7,7,7,7,7,7,7,7,7,7,7,7,7,8,8,8,8,8,8,8,8,8,8,8,8,8,8,8,8,8,8,8,8,8,8,8,8,8,8,8,8,8,8,8,8,8,8,8,8,8,8,8,8,8,8,8,8,8,8,8,8,8,8,8,8,8,8,8,8,8,8,8,8,8,8,8,8,8,8,8,8,8,8,8,8,8,8,8,8,8,8,8,8,8,8,8,8,8,8,8,8,8,8,8,8,8,8,8,8,8,8,8,8,8,8,8,8,8,8,8,8,8,8,8,8,8,8,8,8,8,8,8,8,8,8,8,8,8,8,8,8]⟩
theorem h_en_384 : En Tryz.prog 384:=⟨_,_,Tryz.func384,by kernel_rfl,z⟩
theorem h_ar_389 : Ar Tryz.prog 389 64 1:=⟨_,Tryz.underlying389,by kernel_rfl⟩
theorem h_sc_5 : Sc Tryz.prog 5:=⟨_,Tryz.underlying5,z⟩
theorem h_en_266 : En Tryz.prog 266:=⟨_,_,Tryz.func266,by kernel_rfl,z⟩
theorem h_zr_92 : Zr Tryz.prog 92 #[.int .u16 0]:=⟨.int .u16 0,by kernel_rfl,z⟩
theorem h_en_385 : En Tryz.prog 385:=⟨_,_,Tryz.func385,by kernel_rfl,z⟩
theorem h_sc_130 : Sc Tryz.prog 130:=⟨_,Tryz.underlying130,z⟩
theorem h_en_214 : En Tryz.prog 214:=⟨_,_,Tryz.func214,by kernel_rfl,z⟩
theorem h_mo : Tryz.prog.follows .mixedOrders = true:=by kernel_rfl
theorem h_sc_92 : Sc Tryz.prog 92:=⟨_,Tryz.underlying92,z⟩
theorem h_sz_92 : Sz Tryz.prog 92 1:=by show _ = _; kernel_rfl
theorem h_sz_130 : Sz Tryz.prog 130 1:=by show _ = _; kernel_rfl
theorem h_en_383 : En Tryz.prog 383:=⟨_,_,Tryz.func383,by kernel_rfl,z⟩
theorem h_en_382 : En Tryz.prog 382:=⟨_,_,Tryz.func382,by kernel_rfl,z⟩
theorem h_en_381 : En Tryz.prog 381:=⟨_,_,Tryz.func381,by kernel_rfl,z⟩
theorem h_zr_5 : Zr Tryz.prog 5 #[.int .u8 0]:=⟨.int .u8 0,by kernel_rfl,z⟩
theorem h_zr_3 : Zr Tryz.prog 3 #[.int .i64 0]:=⟨.int .i64 0,by kernel_rfl,z⟩
theorem h_sz_5 : Sz Tryz.prog 5 1:=by show _ = _; kernel_rfl
theorem h_sz_3 : Sz Tryz.prog 3 1:=by show _ = _; kernel_rfl
theorem h_zr_227 : Zr Tryz.prog 227 #[.nilFunc]:=⟨.nilFunc,by kernel_rfl,z⟩
theorem h_sz_227 : Sz Tryz.prog 227 1:=by show _ = _; kernel_rfl
theorem h_sc_227 : Sc Tryz.prog 227:=⟨_,Tryz.underlying227,z⟩
theorem h_sc_3 : Sc Tryz.prog 3:=⟨_,Tryz.underlying3,z⟩
theorem h_en_396 : En Tryz.prog 396:=⟨_,_,Tryz.func396,by kernel_rfl,z⟩
theorem h_en_395 : En Tryz.prog 395:=⟨_,_,Tryz.func395,by kernel_rfl,z⟩
theorem h_en_393 : En Tryz.prog 393:=⟨_,_,Tryz.func393,by kernel_rfl,z⟩
theorem h_en_394 : En Tryz.prog 394:=⟨_,_,Tryz.func394,by kernel_rfl,z⟩
theorem h_ag_151 : Ag Tryz.prog 151 0:=⟨_,Tryz.underlying151,z,by kernel_rfl⟩
theorem h_en_388 : En Tryz.prog 388:=⟨_,_,Tryz.func388,by kernel_rfl,z⟩
theorem h_ul_22 : ((#[22] : Array TypeId)[0]?).bind Tryz.prog.underlying = some (.slice 5):=bind_ul Tryz.underlying22
theorem h_en_390 : En Tryz.prog 390:=⟨_,_,Tryz.func390,by kernel_rfl,z⟩
theorem h_zrr_235 : ZrR Tryz.prog 235 766:=by show _ = _; kernel_rfl
theorem h_fa_235_0 : Fa Tryz.prog 235 0 0:=⟨_,_,Tryz.underlying235,z,z,509,by kernel_rfl⟩
theorem h_ar_232 : Ar Tryz.prog 232 510 1:=⟨_,Tryz.underlying232,by kernel_rfl⟩
theorem h_fa_235_1 : Fa Tryz.prog 235 1 510:=⟨_,_,Tryz.underlying235,z,z,255,by kernel_rfl⟩
theorem h_ar_233 : Ar Tryz.prog 233 256 1:=⟨_,Tryz.underlying233,by kernel_rfl⟩
theorem h_ag_235 : Ag Tryz.prog 235 766:=⟨_,Tryz.underlying235,z,by kernel_rfl⟩
theorem h_fa_237_2 : Fa Tryz.prog 237 2 4:=⟨_,_,Tryz.underlying237,z,z,765,by kernel_rfl⟩
theorem h_sz_235 : Sz Tryz.prog 235 766:=by show _ = _; kernel_rfl
theorem h_fa_237_1 : Fa Tryz.prog 237 1 3:=⟨_,_,Tryz.underlying237,z,z,0,by kernel_rfl⟩
theorem h_en_125 : En Tryz.prog 125:=⟨_,_,Tryz.func125,by kernel_rfl,z⟩
def math_bits_Len16.f (a0 : Int) : Option (Int):=bif decide (256 ≤ a0) then (grd (decide ((0 : Int) ≤ u8.wrap (Int.fdiv a0 (2 ^ (min (8 : Int).toNat 16))) ∧ u8.wrap (Int.fdiv a0 (2 ^ (min (8 : Int).toNat 16))) < (h_str0.size : Int))) (some (i64.wrap (8 + (i64.wrap (sat h_str0 (u8.wrap (Int.fdiv a0 (2 ^ (min (8 : Int).toNat 16)))))))))) else (grd (decide ((0 : Int) ≤ u8.wrap a0 ∧ u8.wrap a0 < (h_str0.size : Int))) (some (i64.wrap (0 + (i64.wrap (sat h_str0 (u8.wrap a0)))))))
theorem math_bits_Len16.calls {w0 : World} {a0 : Int} {r : Int}  (E : math_bits_Len16.f a0 = some r) :
   Calls Tryz.prog 384 #[.int .u16 a0] w0 fun e w'=>e = .returned (.int .i64 r) ∧ St no w0 w' []:=by
 have H:=St.nil no w0
 unfold math_bits_Len16.f at E
 refine calls_of_wc (N:=13) (args:=[.int .u16 a0]) Tryz.func384 z z (by simp) ?_
 refine rg (v_ z (sg (.int .i64 0) z) (nl (wc_seq (rg (v_ z (mv (.int .u16 a0) z) (v_ z (r_geq z z) (nl ?_)))))))
 refine wc_cond z (fun c1=>?_) (fun c1=>?_)
 · have E:=iT c1 E
   refine rg (v_ z (mv (.int .u16 a0) z) (v_ z (r_shr z z (by decide)) (v_ z (sg (.int .u16 (Int.fdiv a0 (2 ^ (min (8 : Int).toNat 16)))) z) (nl (wc_region (v_ z (sg (.int .i64 8) z) (nl (rg (v_ z (mv (.int .i64 8) z) (v_ z (mv (.int .u16 (Int.fdiv a0 (2 ^ (min (8 : Int).toNat 16)))) z) (v_ z (r_conv z Tryz.underlying92 Tryz.underlying5) ?_)))))))))))
   obtain ⟨⟨g2,g3⟩,E⟩:=grd_some E
   refine v_ z (r_idxS Tryz.underlying9 z z g2 g3) (v_ z (r_conv z Tryz.underlying5 Tryz.underlying3) (v_ z (r_add z z) (v_ z (sg (.int .i64 (i64.wrap (8 + (i64.wrap (sat h_str0 (u8.wrap (Int.fdiv a0 (2 ^ (min (8 : Int).toNat 16))))))))) z) (nl (wc_ret ?_)))))
   cases E
   exact ⟨.inl z,_,tk0 z ⟨resN z (rv_t rv_nil),z,H.sub0⟩⟩
 · have E:=iF c1 E
   refine wc_skip (n_thn (rg (v_ z (mv (.int .i64 0) z) (v_ z (mv (.int .u16 a0) z) (v_ z (r_conv z Tryz.underlying92 Tryz.underlying5) ?_)))))
   obtain ⟨⟨g4,g5⟩,E⟩:=grd_some E
   refine v_ z (r_idxS Tryz.underlying9 z z g4 g5) (v_ z (r_conv z Tryz.underlying5 Tryz.underlying3) (v_ z (r_add z z) (v_ z (sg (.int .i64 (i64.wrap (0 + (i64.wrap (sat h_str0 (u8.wrap a0)))))) z) (nl (wc_ret ?_)))))
   cases E
   exact ⟨.inl z,_,tk0 z ⟨resN z (rv_t rv_nil),z,H.sub0⟩⟩
def shift_Reduce.l0 : Nat → Int → Int → Option (Int)
 | 0,_,_=>none
 | k + 1,x8,x9=>bif decide (8 < x9) then (grd (decide (0 ≤ i64.wrap ((i64.wrap (x9 - 1)) - 8))) ((math_bits_Len16.f (bits .xor .u16 x8 (u16.wrap (285 * 2 ^ (min (i64.wrap ((i64.wrap (x9 - 1)) - 8)).toNat 16))))).bind fun x21=>shift_Reduce.l0 k (bits .xor .u16 x8 (u16.wrap (285 * 2 ^ (min (i64.wrap ((i64.wrap (x9 - 1)) - 8)).toNat 16)))) x21)) else (some (u8.wrap x8))
def shift_Reduce.f (k : Nat) (a0 : Int) : Option (Int):=(math_bits_Len16.f a0).bind fun x1=>shift_Reduce.l0 k a0 x1
theorem shift_Reduce.calls {w0 : World} {k : Nat} {a0 : Int} {r : Int}  (E : shift_Reduce.f k a0 = some r) :
   Calls Tryz.prog 382 #[.int .u16 a0] w0 fun e w'=>e = .returned (.int .u8 r) ∧ St no w0 w' []:=by
 have H:=St.nil no w0
 unfold shift_Reduce.f at E
 refine calls_of_wc (N:=18) (args:=[.int .u16 a0]) Tryz.func382 z z (by simp) ?_
 refine rg (v_ z (sg (.int .u8 0) z) (nl (wc_seq (rg (v_ z (mv (.int .u16 a0) z) ?_)))))
 obtain ⟨x1,E2,E⟩:=bind_some E
 refine e_ z (y_callL h_en_384 z ((math_bits_Len16.calls E2).mono ?_))
 rintro _ w ⟨rfl,K⟩
 have H:=H.app K
 refine ⟨_,z,(v_ z (sg (.int .i64 x1) z) (nl (wc_block ?_)))⟩
 refine wc_loop (fun kk t w=>∃ (x8 : Int) (x9 : Int) (t17 : Fr),kk ≤ k ∧ shift_Reduce.l0 kk x8 x9 = some r ∧ t = upds t17 [(0,.int .u16 x8),(2,.int .u8 0),(3,.int .i64 x9),(1000000,undef)] ∧ St no w0 w []) k ?_ ?_
 · exact ⟨_,_,_,Nat.le_refl _,E,upds_eq ⟨z,z,z,z,trivial⟩,H⟩
 rintro kk t w ⟨x8,x9,t17,hk16,E,rfl,H⟩
 obtain ⟨k15,rfl⟩ | rfl : (∃ k',kk = k' + 1) ∨ kk = 0:=by cases kk; exact .inr rfl; exact .inl ⟨_,rfl⟩
 rotate_left
 · cases E
 rw [shift_Reduce.l0] at E
 refine wc_seq (rg (v_ z (mv (.int .i64 x9) z) (v_ z (r_gtr z z) (nl ?_))))
 refine wc_cond z (fun c19=>?_) (fun c19=>?_)
 · have E:=iT c19 E
   refine wc_skip (n_thn (wc_seq (wc_block (wc_region (v_ z (mv (.int .u16 x8) z) (v_ z (mv (.int .i64 x9) z) (v_ z (r_sub z z) (v_ z (r_sub z z) ?_))))))))
   obtain ⟨g20,E⟩:=grd_some E
   refine v_ z (r_shl z z g20) (v_ z (r_xor z z) (v_ z (sg (.int .u16 (bits .xor .u16 x8 (u16.wrap (285 * 2 ^ (min (i64.wrap ((i64.wrap (x9 - 1)) - 8)).toNat 16))))) z) (wl_nil (n_bk (n_thn (wc_region (v_ z (mv (.int .u16 (bits .xor .u16 x8 (u16.wrap (285 * 2 ^ (min (i64.wrap ((i64.wrap (x9 - 1)) - 8)).toNat 16))))) z) ?_)))))))
   obtain ⟨x21,E22,E⟩:=bind_some E
   refine e_ z (y_callL h_en_384 z ((math_bits_Len16.calls E22).mono ?_))
   rintro _ w ⟨rfl,K⟩
   have H:=H.app K
   refine ⟨_,z,(v_ z (sg (.int .i64 x21) z) (wl_nil ?_))⟩
   exact ⟨k15,Nat.lt_succ_self _,_,_,_,Nat.le_of_succ_le hk16,E,upds_eq ⟨z,z,z,z,trivial⟩,H⟩
 · have E:=iF c19 E
   refine wc_exit (x_thn (x_thn (x_bk (n_thn (rg (v_ z (mv (.int .u16 x8) z) (v_ z (r_conv z Tryz.underlying92 Tryz.underlying5) (v_ z (sg (.int .u8 (u8.wrap x8)) z) (nl (wc_ret ?_))))))))))
   cases E
   exact ⟨.inl z,_,tk0 z ⟨resN z (rv_t rv_nil),z,H.sub0⟩⟩
def math_bits_TrailingZeros64.f (a0 : Int) : Option (Int):=bif decide (a0 = 0) then (some 64) else (grd (decide ((0 : Int) ≤ Int.fdiv (u64.wrap ((bits .and .u64 a0 (u64.wrap (-a0))) * 285870213051353865)) (2 ^ (min (58 : Int).toNat 64)) ∧ Int.fdiv (u64.wrap ((bits .and .u64 a0 (u64.wrap (-a0))) * 285870213051353865)) (2 ^ (min (58 : Int).toNat 64)) < 64)) (some (i64.wrap (at_ 0 dtab (Int.fdiv (u64.wrap ((bits .and .u64 a0 (u64.wrap (-a0))) * 285870213051353865)) (2 ^ (min (58 : Int).toNat 64)))))))
theorem math_bits_TrailingZeros64.calls {w0 : World} {a0 : Int} {r : Int} (hf : (Rs.gt ).inv w0) (E : math_bits_TrailingZeros64.f a0 = some r) :
   Calls Tryz.prog 266 #[.int .u64 a0] w0 fun e w'=>e = .returned (.int .i64 r) ∧ St (Rs.gt ).fp w0 w' [.gt]:=by
 have H:=St.start hf
 unfold math_bits_TrailingZeros64.f at E
 refine calls_of_wc (N:=14) (args:=[.int .u64 a0]) Tryz.func266 z z (by simp) ?_
 refine rg (v_ z (sg (.int .i64 0) z) (nl (wc_seq (rg (v_ z (mv (.int .u64 a0) z) (v_ z (r_eql z z) (nl ?_)))))))
 refine wc_cond z (fun c1=>?_) (fun c1=>?_)
 · have E:=iT c1 E
   refine rg (v_ z (sg (.int .i64 64) z) (nl (wc_ret ?_)))
   cases E
   exact (r_thn ⟨.inl z,_,tk0 z ⟨resN z (rv_t rv_nil),z,H.sub1 0 z⟩⟩)
 · have E:=iF c1 E
   refine wc_skip (n_thn (rg (v_ z (mv (.int .u64 a0) z) (v_ z (mv (.int .u64 a0) z) (v_ z (r_neg z) (v_ z (r_and z z) (v_ z (r_mul z z) (v_ z (r_shr z z (by decide)) ?_))))))))
   obtain ⟨⟨g2,g3⟩,E⟩:=grd_some E
   refine v_ z (r_iaddrA h_ar_389 z z g2 g3) (v_ z (r_load h_sc_5 z (gt_cell (H.get 0 z) g2 g3)) (v_ z (r_conv z Tryz.underlying5 Tryz.underlying3) (v_ z (sg (.int .i64 (i64.wrap (at_ 0 dtab (Int.fdiv (u64.wrap ((bits .and .u64 a0 (u64.wrap (-a0))) * 285870213051353865)) (2 ^ (min (58 : Int).toNat 64)))))) z) (nl (wc_ret ?_)))))
   cases E
   exact ⟨.inl z,_,tk0 z ⟨resN z (rv_t rv_nil),z,H.sub1 0 z⟩⟩
def math_bits_TrailingZeros.f (a0 : Int) : Option (Int):=(math_bits_TrailingZeros64.f a0).bind fun x1=>some x1
theorem math_bits_TrailingZeros.calls {w0 : World} {a0 : Int} {r : Int} (hf : (Rs.gt ).inv w0) (E : math_bits_TrailingZeros.f a0 = some r) :
   Calls Tryz.prog 214 #[.int .u64 a0] w0 fun e w'=>e = .returned (.int .i64 r) ∧ St (Rs.gt ).fp w0 w' [.gt]:=by
 have H:=St.start hf
 unfold math_bits_TrailingZeros.f at E
 refine calls_of_wc (N:=8) (args:=[.int .u64 a0]) Tryz.func214 z z (by simp) ?_
 refine rg (v_ z (sg (.int .i64 0) z) (nl (wc_seq (wc_condF z (wc_skip (n_thn (rg (v_ z (mv (.int .u64 a0) z) ?_))))))))
 obtain ⟨x1,E2,E⟩:=bind_some E
 refine e_ z (y_callL h_en_266 z ((math_bits_TrailingZeros64.calls (H.get 0 z) E2).mono ?_))
 rintro _ w ⟨rfl,K⟩
 have H:=H.appX 0 z K
 refine ⟨_,z,(v_ z (sg (.int .i64 x1) z) (nl (wc_ret ?_)))⟩
 cases E
 exact ⟨.inl z,_,tk0 z ⟨resN z (rv_t rv_nil),z,H.sub1 0 z⟩⟩
def shift_Wide.l0 : Nat → Int → Int → Int → Option (Int)
 | 0,_,_,_=>none
 | k + 1,a0,x14,x15=>bif !decide (x15 = 0) then ((math_bits_TrailingZeros.f x15).bind fun x26=>grd (decide (0 ≤ x26)) (shift_Wide.l0 k a0 (bits .xor .u16 x14 (u16.wrap ((u16.wrap a0) * 2 ^ (min x26.toNat 16)))) (bits .and .u64 x15 (u64.wrap (x15 - 1))))) else (some x14)
def shift_Wide.f (k : Nat) (a0 : Int) (a1 : Int) : Option (Int):=shift_Wide.l0 k a0 0 (u64.wrap a1)
theorem shift_Wide.calls {w0 : World} {k : Nat} {a0 : Int} {a1 : Int} {r : Int} (hf : (Rs.gt ).inv w0) (E : shift_Wide.f k a0 a1 = some r) :
   Calls Tryz.prog 383 #[.int .u8 a0,.int .u8 a1] w0 fun e w'=>e = .returned (.int .u16 r) ∧ St (Rs.gt ).fp w0 w' [.gt]:=by
 have H:=St.start hf
 unfold shift_Wide.f at E
 refine calls_of_wc (N:=18) (args:=[.int .u8 a0,.int .u8 a1]) Tryz.func383 z z (by simp) ?_
 have H:=H.mk0
 refine rg (e_ z (y_boxS (cs:=#[.int .u8 a0]) H z (fun b1 w H=>(v_ z (sg (.int .u16 0) z) (nl (rg (e_ z (y_allocS h_zr_92 H (fun b2 w H=>(nl (wc_seq (rg (v_ z (mv (.int .u8 a1) z) (v_ z (r_conv z Tryz.underlying5 Tryz.underlying130) (e_ z (y_in 4 [.int .u64 (u64.wrap a1)] h_en_385 Tryz.func385 z z z z (rg (e_ z (y_boxS (cs:=#[.int .u64 (u64.wrap a1)]) H z (fun b4 w H=>(v_ z (sg (.nilFunc) z) (nl (rg (v_ z (r_mkf [pt b4] z) (v_ z (sg (.func (.func 386) #[] #[pt b4]) z) (nl (wc_ret (⟨.inl z,.func (.func 386) #[] #[pt b4],tk0 z ⟨resM z (rv_t rv_nil) z,(nl (wc_block (wc_rf 14 [pt b4] z Tryz.func386 z z z z z H 1 z z (fun v8 b5 o6 w hO7 H=>(wc_block ?_)))))⟩⟩))))))))))))))))))))))))))))
 refine wc_loop (fun kk t w=>∃ (x14 : Int) (x15 : Int) (t23 : Fr),kk ≤ k ∧ shift_Wide.l0 kk a0 x14 x15 = some r ∧ t = upds t23 [(0,.func (.yield b5) #[] #[]),(1,pt b4),(1000000,undef)] ∧ St (Rs.gt ).fp w0 w [.gt,.mks v8,.blk b1 #[.int .u8 a0] 5,.blk b2 #[.int .u16 x14] 92,.blk b4 #[.int .u64 x15] 130,.obj b5 (.loop o6)]) k ?_ ?_
 · exact ⟨_,_,_,Nat.le_refl _,E,upds_eq ⟨z,z,z,trivial⟩,H⟩
 rintro kk t w ⟨x14,x15,t23,hk22,E,rfl,H⟩
 obtain ⟨k21,rfl⟩ | rfl : (∃ k',kk = k' + 1) ∨ kk = 0:=by cases kk; exact .inr rfl; exact .inl ⟨_,rfl⟩
 rotate_left
 · cases E
 rw [shift_Wide.l0] at E
 refine wc_seq (rg (v_ z (r_load h_sc_130 z (blk_cell (H.get 4 z) z)) (v_ z (r_neq z z) (nl ?_))))
 refine wc_cond z (fun c25=>?_) (fun c25=>?_)
 · have E:=iT c25 E
   refine wc_skip (n_thn (wc_seq (wc_block (rg (v_ z (mv (.func (.yield b5) #[] #[]) z) (v_ z (r_load h_sc_130 z (blk_cell (H.get 4 z) z)) ?_))))))
   obtain ⟨x26,E27,E⟩:=bind_some E
   refine e_ z (y_callL h_en_214 z ((math_bits_TrailingZeros.calls (H.get 0 z) E27).mono ?_))
   rintro _ w ⟨rfl,K⟩
   have H:=H.appX 0 z K
   refine ⟨_,z,(e_ z (y_yld [.int .i64 x26] z z H 5 z hO7 z z (wc_region (v_ z (sg (.int .i64 x26) z) (wl_nil (yB H 5 z hO7 (fun w H=>(wc_block (wc_drawnS (ds:=[6]) h_mo H z z ?_)))))))))⟩
   have H:=H.drew
   refine wt 0 (tf 1 7) z z z (by kernel_rfl) H (fun w H=>(r_load h_sc_92 z (blk_cell (H.get 3 z) z))) (wt 1 (tf 2 7) z z z (by kernel_rfl) H (fun w H=>(r_load h_sc_5 z (blk_cell (H.get 2 z) z))) (wt 2 (tf 3 7) z z z (by kernel_rfl) H (fun w H=>(r_conv z Tryz.underlying5 Tryz.underlying92)) (wt 3 (tf 4 7) z z z (by kernel_rfl) H (fun w H=>(mv (.int .i64 x26) z)) ?_)))
   obtain ⟨g28,E⟩:=grd_some E
   refine wt 4 (tf 5 7) z z z (by kernel_rfl) H (fun w H=>(r_shl z z g28)) (wt 5 (tf 6 7) z z z (by kernel_rfl) H (fun w H=>(r_xor z z)) (wa_one (i:=6) (l':=(tf 7 7)) z z z (by kernel_rfl) (y_storeB h_sz_92 H 3 z z z z z (fun w H=>⟨fun h=>(h (by decide)).elim,(wa_done (by kernel_rfl) (n_bk (yN H 5 z hO7 (fun w H=>(v_ z (rv_eq (v':=.bool false) (r_not z) z) (nl (wc_condF z (wc_skip (n_bk (n_thn (wc_region (v_ z (r_load h_sc_130 z (blk_cell (H.get 4 z) z)) (v_ z (r_load h_sc_130 z (blk_cell (H.get 4 z) z)) (v_ z (r_sub z z) (v_ z (r_and z z) (s_ (y_storeB h_sz_130 H 4 z z z z z (fun w H=>(wl_nil ?_)))))))))))))))))))⟩))))
   exact ⟨k21,Nat.lt_succ_self _,_,_,_,Nat.le_of_succ_le hk22,E,upds_eq ⟨z,z,z,trivial⟩,H⟩
 · have E:=iF c25 E
   refine wc_exit (x_thn (x_thn (x_bk (⟨.inr z,.tuple #[],tk0 z ⟨resM z rv_nil z,(el_n H 5 z hO7 (fun w H=>(n_bk (n_thn (rg (v_ z (r_load h_sc_92 z (blk_cell (H.get 3 z) z)) (v_ z (sg (.int .u16 x14) z) (nl (wc_ret ?_)))))))))⟩⟩))))
   cases E
   exact ⟨.inl z,_,tkA H 1 z z (fun w H=>⟨resN z (rv_t rv_nil),z,H.sub1 0 z⟩)⟩
def shift_Mul.f (k : Nat) (a0 : Int) (a1 : Int) : Option (Int):=(shift_Wide.f k a0 a1).bind fun x1=>(shift_Reduce.f k x1).bind fun x3=>some x3
theorem shift_Mul.calls {w0 : World} {k : Nat} {a0 : Int} {a1 : Int} {r : Int} (hf : (Rs.gt ).inv w0) (E : shift_Mul.f k a0 a1 = some r) :
   Calls Tryz.prog 381 #[.int .u8 a0,.int .u8 a1] w0 fun e w'=>e = .returned (.int .u8 r) ∧ St (Rs.gt ).fp w0 w' [.gt]:=by
 have H:=St.start hf
 unfold shift_Mul.f at E
 refine calls_of_wc (N:=9) (args:=[.int .u8 a0,.int .u8 a1]) Tryz.func381 z z (by simp) ?_
 refine rg (v_ z (sg (.int .u8 0) z) (nl (rg (v_ z (mv (.int .u8 a0) z) (v_ z (mv (.int .u8 a1) z) ?_)))))
 obtain ⟨x1,E2,E⟩:=bind_some E
 refine e_ z (y_callL h_en_383 z ((shift_Wide.calls (H.get 0 z) E2).mono ?_))
 rintro _ w ⟨rfl,K⟩
 have H:=H.appX 0 z K
 refine ⟨_,z,?_⟩
 obtain ⟨x3,E4,E⟩:=bind_some E
 refine e_ z (y_callL h_en_382 z ((shift_Reduce.calls E4).mono ?_))
 rintro _ w ⟨rfl,K⟩
 have H:=H.app K
 refine ⟨_,z,(v_ z (sg (.int .u8 x3) z) (nl (wc_ret ?_)))⟩
 cases E
 exact ⟨.inl z,_,tk0 z ⟨resN z (rv_t rv_nil),z,H.sub1 0 z⟩⟩
def field_byShift_Mul.f (k : Nat) (a1 : Int) (a2 : Int) : Option (Int):=(shift_Mul.f k a1 a2).bind fun x2=>some x2
theorem field_byShift_Mul.calls {w0 : World} {k : Nat} {a1 : Int} {a2 : Int} {r : Int} (hf : (Rs.gt ).inv w0) (E : field_byShift_Mul.f k a1 a2 = some r) :
   Calls Tryz.prog 390 #[.agg #[],.int .u8 a1,.int .u8 a2] w0 fun e w'=>e = .returned (.int .u8 r) ∧ St (Rs.gt ).fp w0 w' [.gt]:=by
 have H:=St.start hf
 unfold field_byShift_Mul.f at E
 refine calls_of_wc (N:=10) (args:=[.agg #[],.int .u8 a1,.int .u8 a2]) Tryz.func390 z z (by simp) ?_
 refine rg (e_ z (y_boxS (cs:=#[]) H z (fun b1 w H=>(v_ z (sg (.int .u8 0) z) (nl (rg (v_ z (mv (.int .u8 a1) z) (v_ z (mv (.int .u8 a2) z) ?_))))))))
 obtain ⟨x2,E3,E⟩:=bind_some E
 refine e_ z (y_callL h_en_381 z ((shift_Mul.calls (H.get 0 z) E3).mono ?_))
 rintro _ w ⟨rfl,K⟩
 have H:=H.appX 0 z K
 refine ⟨_,z,(v_ z (sg (.int .u8 x2) z) (nl (wc_ret ?_)))⟩
 cases E
 exact ⟨.inl z,_,tk0 z ⟨resN z (rv_t rv_nil),z,H.sub1 0 z⟩⟩
mutual
def shift_power.l0 : Nat → Int → Int → Int → Int → Option (Int)
 | 0,_,_,_,_=>none
 | k + 1,x51,x52,x53,x54=>bif !decide (x54 = 0) then ((math_bits_TrailingZeros.f x54).bind fun x100=>shift_power.l1 k x52 x53 x54 x100 x51 0) else (some x52)
def shift_power.l1 : Nat → Int → Int → Int → Int → Int → Int → Option (Int)
 | 0,_,_,_,_,_,_=>none
 | k + 1,x52,x53,x54,x100,x123,x124=>bif decide (x124 < i64.wrap (x100 - x53)) then ((shift_Mul.f k x123 x123).bind fun x134=>shift_power.l1 k x52 x53 x54 x100 x134 (i64.wrap (x124 + 1))) else ((shift_Mul.f k x52 x123).bind fun x136=>shift_power.l0 k x123 x136 x100 (bits .and .u64 x54 (u64.wrap (x54 - 1))))
end
def shift_power.f (k : Nat) (a0 : Int) (a1 : Int) : Option (Int):=shift_power.l0 k a0 1 0 a1
theorem shift_power.calls {w0 : World} {k : Nat} {a0 : Int} {a1 : Int} {r : Int} (hf : (Rs.gt ).inv w0) (E : shift_power.f k a0 a1 = some r) :
   Calls Tryz.prog 395 #[.int .u8 a0,.int .u64 a1] w0 fun e w'=>e = .returned (.int .u8 r) ∧ St (Rs.gt ).fp w0 w' [.gt]:=by
 have H:=St.start hf
 unfold shift_power.f at E
 refine calls_of_wc (N:=23) (args:=[.int .u8 a0,.int .u64 a1]) Tryz.func395 z z (by simp) ?_
 have H:=H.mk0
 refine rg (e_ z (y_boxS (cs:=#[.int .u8 a0]) H z (fun b1 w H=>(v_ z (sg (.int .u8 0) z) (nl (rg (e_ z (y_allocS h_zr_5 H (fun b2 w H=>(e_ z (y_allocS h_zr_3 H (fun b3 w H=>(s_ (y_storeB h_sz_5 H 3 z z z z z (fun w H=>(s_ (y_storeB h_sz_3 H 4 z z z z z (fun w H=>(nl (rg ?_))))))))))))))))))))
 have H : St (Rs.gt ).fp w0 w [.gt,.mks undef,.blk b1 #[.int .u8 a0] 5,.blk b2 #[.int .u8 1] 5,.blk b3 #[.int .i64 0] 3]:=H
 refine v_ z (r_mkf [pt b1] z) (e_ z (y_allocS h_zr_227 H (fun b4 w H=>(s_ (y_storeB h_sz_227 H 5 z z z z z (fun w H=>(nl (wc_seq (rg (v_ z (mv (.int .u64 a1) z) (e_ z (y_in 4 [.int .u64 a1] h_en_385 Tryz.func385 z z z z (rg (e_ z (y_boxS (cs:=#[.int .u64 a1]) H z (fun b6 w H=>(v_ z (sg (.nilFunc) z) (nl (rg (v_ z (r_mkf [pt b6] z) (v_ z (sg (.func (.func 386) #[] #[pt b6]) z) (nl (wc_ret (⟨.inl z,.func (.func 386) #[] #[pt b6],tk0 z ⟨resM z (rv_t rv_nil) z,(nl (wc_block (wc_rf 14 [pt b6] z Tryz.func386 z z z z z H 1 z z (fun v10 b7 o8 w hO9 H=>(wc_block ?_)))))⟩⟩))))))))))))))))))))))))
 refine wc_loop (fun kk t w=>∃ (x51 : Int) (x52 : Int) (x53 : Int) (x54 : Int) (t97 : Fr),kk ≤ k ∧ shift_power.l0 kk x51 x52 x53 x54 = some r ∧ t = upds t97 [(0,.func (.yield b7) #[] #[]),(1,pt b6),(1000000,undef)] ∧ St (Rs.gt ).fp w0 w [.gt,.mks v10,.blk b1 #[.int .u8 x51] 5,.blk b2 #[.int .u8 x52] 5,.blk b3 #[.int .i64 x53] 3,.blk b4 #[.func (.func 396) #[] #[pt b1]] 227,.blk b6 #[.int .u64 x54] 130,.obj b7 (.loop o8)]) k ?_ ?_
 · exact ⟨_,_,_,_,_,Nat.le_refl _,E,upds_eq ⟨z,z,z,trivial⟩,H⟩
 rintro kk t w ⟨x51,x52,x53,x54,t97,hk96,E,rfl,H⟩
 obtain ⟨k95,rfl⟩ | rfl : (∃ k',kk = k' + 1) ∨ kk = 0:=by cases kk; exact .inr rfl; exact .inl ⟨_,rfl⟩
 rotate_left
 · cases E
 rw [shift_power.l0] at E
 refine wc_seq (rg (v_ z (r_load h_sc_130 z (blk_cell (H.get 6 z) z)) (v_ z (r_neq z z) (nl ?_))))
 refine wc_cond z (fun c99=>?_) (fun c99=>?_)
 · have E:=iT c99 E
   refine wc_skip (n_thn (wc_seq (wc_block (rg (v_ z (mv (.func (.yield b7) #[] #[]) z) (v_ z (r_load h_sc_130 z (blk_cell (H.get 6 z) z)) ?_))))))
   obtain ⟨x100,E101,E⟩:=bind_some E
   refine e_ z (y_callL h_en_214 z ((math_bits_TrailingZeros.calls (H.get 0 z) E101).mono ?_))
   rintro _ w ⟨rfl,K⟩
   have H:=H.appX 0 z K
   refine ⟨_,z,(e_ z (y_yld [.int .i64 x100] z z H 7 z hO9 z z (wc_region (v_ z (sg (.int .i64 x100) z) (wl_nil (yB H 7 z hO9 (fun w H=>(wc_block (rg (v_ z (r_load h_sc_227 z (blk_cell (H.get 5 z) z)) (v_ z (mv (.int .i64 x100) z) (v_ z (r_load h_sc_3 z (blk_cell (H.get 4 z) z)) (v_ z (r_sub z z) (e_ z (y_inv 10 [.int .i64 (i64.wrap (x100 - x53)),pt b1] z h_en_396 Tryz.func396 z z z z (rg (v_ z (mv (.int .i64 (i64.wrap (x100 - x53))) z) (v_ z (mv (.int .i64 0) z) (nl (wc_block ?_))))))))))))))))))))⟩
   refine wc_loop (fun kk t w=>∃ (x123 : Int) (x124 : Int) (t131 : Fr),kk ≤ k95 ∧ shift_power.l1 kk x52 x53 x54 x100 x123 x124 = some r ∧ t = upds t131 [(1,pt b1),(3,.int .i64 (i64.wrap (x100 - x53))),(4,.int .i64 x124),(1000000,undef)] ∧ St (Rs.gt ).fp w0 w [.gt,.mks v10,.blk b1 #[.int .u8 x123] 5,.blk b2 #[.int .u8 x52] 5,.blk b3 #[.int .i64 x53] 3,.blk b4 #[.func (.func 396) #[] #[pt b1]] 227,.blk b6 #[.int .u64 x54] 130,.obj b7 (.loop (lpB o8))]) k95 ?_ ?_
   · exact ⟨_,_,_,Nat.le_refl _,E,upds_eq ⟨z,z,z,z,trivial⟩,H⟩
   rintro kk t w ⟨x123,x124,t131,hk130,E,rfl,H⟩
   obtain ⟨k129,rfl⟩ | rfl : (∃ k',kk = k' + 1) ∨ kk = 0:=by cases kk; exact .inr rfl; exact .inl ⟨_,rfl⟩
   rotate_left
   · cases E
   rw [shift_power.l1] at E
   refine rg (v_ z (r_lss z z) (nl (wc_seq ?_)))
   refine wc_cond z (fun c133=>?_) (fun c133=>?_)
   · have E:=iT c133 E
     refine wc_skip (n_thn (wc_seq (wc_block (wc_region (v_ z (r_load h_sc_5 z (blk_cell (H.get 2 z) z)) (v_ z (r_load h_sc_5 z (blk_cell (H.get 2 z) z)) ?_))))))
     obtain ⟨x134,E135,E⟩:=bind_some E
     refine e_ z (y_callL h_en_381 z ((shift_Mul.calls (H.get 0 z) E135).mono ?_))
     rintro _ w ⟨rfl,K⟩
     have H:=H.appX 0 z K
     refine ⟨_,z,(s_ (y_storeB h_sz_5 H 2 z z z z z (fun w H=>(wl_nil (n_bk (n_thn (wc_region (v_ z (r_add z z) (v_ z (mv (.int .i64 (i64.wrap (x124 + 1))) z) (wl_nil ?_))))))))))⟩
     exact ⟨k129,Nat.lt_succ_self _,_,_,_,Nat.le_of_succ_le hk130,E,upds_eq ⟨z,z,z,z,trivial⟩,H⟩
   · have E:=iF c133 E
     refine wc_exit (x_thn (x_thn (x_bk (⟨.inr z,.tuple #[],tk0 z ⟨resM z rv_nil z,(nl (wc_region (v_ z (r_load h_sc_5 z (blk_cell (H.get 3 z) z)) (v_ z (r_load h_sc_5 z (blk_cell (H.get 2 z) z)) ?_))))⟩⟩))))
     obtain ⟨x136,E137,E⟩:=bind_some E
     refine e_ z (y_callL h_en_381 z ((shift_Mul.calls (H.get 0 z) E137).mono ?_))
     rintro _ w ⟨rfl,K⟩
     have H:=H.appX 0 z K
     refine ⟨_,z,(v_ z (mv (.int .i64 x100) z) (s_ (y_storeB h_sz_5 H 3 z z z z z (fun w H=>(s_ (y_storeB h_sz_3 H 4 z z z z z (fun w H=>(wl_nil (n_bk (yN H 7 z hO9 (fun w H=>(v_ z (rv_eq (v':=.bool false) (r_not z) z) (nl (wc_condF z (wc_skip (n_bk (n_thn (wc_region (v_ z (r_load h_sc_130 z (blk_cell (H.get 6 z) z)) (v_ z (r_load h_sc_130 z (blk_cell (H.get 6 z) z)) (v_ z (r_sub z z) (v_ z (r_and z z) (s_ (y_storeB h_sz_130 H 6 z z z z z (fun w H=>(wl_nil ?_))))))))))))))))))))))))))⟩
     exact ⟨k129,by omega,_,_,_,_,_,by omega,E,upds_eq ⟨z,z,z,trivial⟩,H⟩
 · have E:=iF c99 E
   refine wc_exit (x_thn (x_thn (x_bk (⟨.inr z,.tuple #[],tk0 z ⟨resM z rv_nil z,(el_n H 7 z hO9 (fun w H=>(n_bk (n_thn (rg (v_ z (r_load h_sc_5 z (blk_cell (H.get 3 z) z)) (v_ z (sg (.int .u8 x52) z) (nl (wc_ret ?_)))))))))⟩⟩))))
   cases E
   exact ⟨.inl z,_,tkA H 1 z z (fun w H=>⟨resN z (rv_t rv_nil),z,H.sub1 0 z⟩)⟩
def shift_Inv.f (k : Nat) (a0 : Int) : Option (Int × Bool):=bif decide (a0 = 0) then (some (0,false)) else ((shift_power.f k a0 254).bind fun x3=>some (x3,true))
theorem shift_Inv.calls {w0 : World} {k : Nat} {a0 : Int} {r : Int × Bool} (hf : (Rs.gt ).inv w0) (E : shift_Inv.f k a0 = some r) :
   Calls Tryz.prog 393 #[.int .u8 a0] w0 fun e w'=>e = .returned (.tuple #[.int .u8 r.1,.bool r.2]) ∧ St (Rs.gt ).fp w0 w' [.gt]:=by
 have H:=St.start hf
 unfold shift_Inv.f at E
 refine calls_of_wc (N:=8) (args:=[.int .u8 a0]) Tryz.func393 z z (by simp) ?_
 refine rg (v_ z (sg (.int .u8 0) z) (v_ z (sg (.bool false) z) (nl (wc_seq (rg (v_ z (mv (.int .u8 a0) z) (v_ z (r_eql z z) (nl ?_))))))))
 refine wc_cond z (fun c2=>?_) (fun c2=>?_)
 · have E:=iT c2 E
   refine rg (v_ z (sg (.int .u8 0) z) (v_ z (sg (.bool false) z) (nl (wc_ret ?_))))
   cases E
   exact (r_thn ⟨.inl z,_,tk0 z ⟨resN z (rv_t (rv_t rv_nil)),z,H.sub1 0 z⟩⟩)
 · have E:=iF c2 E
   refine wc_skip (n_thn (rg (v_ z (mv (.int .u8 a0) z) ?_)))
   obtain ⟨x3,E4,E⟩:=bind_some E
   refine e_ z (y_callL h_en_395 z ((shift_power.calls (H.get 0 z) E4).mono ?_))
   rintro _ w ⟨rfl,K⟩
   have H:=H.appX 0 z K
   refine ⟨_,z,(v_ z (sg (.int .u8 x3) z) (v_ z (sg (.bool true) z) (nl (wc_ret ?_))))⟩
   cases E
   exact ⟨.inl z,_,tk0 z ⟨resN z (rv_t (rv_t rv_nil)),z,H.sub1 0 z⟩⟩
def field_byShift_Inv.f (k : Nat) (a1 : Int) : Option (Int × Bool):=(shift_Inv.f k a1).bind fun x2=>some (x2.1,x2.2)
theorem field_byShift_Inv.calls {w0 : World} {k : Nat} {a1 : Int} {r : Int × Bool} (hf : (Rs.gt ).inv w0) (E : field_byShift_Inv.f k a1 = some r) :
   Calls Tryz.prog 389 #[.agg #[],.int .u8 a1] w0 fun e w'=>e = .returned (.tuple #[.int .u8 r.1,.bool r.2]) ∧ St (Rs.gt ).fp w0 w' [.gt]:=by
 have H:=St.start hf
 unfold field_byShift_Inv.f at E
 refine calls_of_wc (N:=10) (args:=[.agg #[],.int .u8 a1]) Tryz.func389 z z (by simp) ?_
 refine rg (e_ z (y_boxS (cs:=#[]) H z (fun b1 w H=>(v_ z (sg (.int .u8 0) z) (v_ z (sg (.bool false) z) (nl (rg (v_ z (mv (.int .u8 a1) z) ?_))))))))
 obtain ⟨x2,E3,E⟩:=bind_some E
 refine e_ z (y_callL h_en_393 z ((shift_Inv.calls (H.get 0 z) E3).mono ?_))
 rintro _ w ⟨rfl,K⟩
 have H:=H.appX 0 z K
 refine ⟨_,z,(v_ z (r_extract z z) (v_ z (r_extract z z) (v_ z (sg (.int .u8 x2.1) z) (v_ z (sg (.bool x2.2) z) (nl (wc_ret ?_))))))⟩
 cases E
 exact ⟨.inl z,_,tk0 z ⟨resN z (rv_t (rv_t rv_nil)),z,H.sub1 0 z⟩⟩
def shift_Pow.j1 (k : Nat) (a0 : Int) (x12 : Int) : Option (Int):=(shift_power.f k a0 (u64.wrap x12)).bind fun x17=>some x17
def shift_Pow.j0 (k : Nat) (a0 : Int) (x4 : Int) : Option (Int):=bif decide (Int.tmod x4 255 < 0) then (shift_Pow.j1 k a0 (i64.wrap ((Int.tmod x4 255) + 255))) else (shift_Pow.j1 k a0 (Int.tmod x4 255))
def shift_Pow.f (k : Nat) (a0 : Int) (a1 : Int) : Option (Int):=bif decide (a0 = 0) then (bif !decide (a1 = 0) then (some 0) else (shift_Pow.j0 k a0 a1)) else (shift_Pow.j0 k a0 a1)
theorem shift_Pow.calls {w0 : World} {k : Nat} {a0 : Int} {a1 : Int} {r : Int} (hf : (Rs.gt ).inv w0) (E : shift_Pow.f k a0 a1 = some r) :
   Calls Tryz.prog 394 #[.int .u8 a0,.int .i64 a1] w0 fun e w'=>e = .returned (.int .u8 r) ∧ St (Rs.gt ).fp w0 w' [.gt]:=by
 have H:=St.start hf
 unfold shift_Pow.f at E
 refine calls_of_wc (N:=21) (args:=[.int .u8 a0,.int .i64 a1]) Tryz.func394 z z (by simp) ?_
 refine rg (v_ z (sg (.int .u8 0) z) (nl ?_))
 refine wc_seqJ (fun t w=>∃ (k6 : Nat) (x4 : Int) (t5 : Fr),k6 ≤ k ∧ shift_Pow.j0 k6 a0 x4 = some r ∧ t = upds t5 [(0,.int .u8 a0),(1,.int .i64 x4),(4,.int .u8 0),(1000000,undef)] ∧ St (Rs.gt ).fp w0 w [.gt]) ?_ ?_
 · refine rg (v_ z (mv (.int .u8 a0) z) (v_ z (r_eql z z) (v_ z (mv (.bool (decide (a0 = 0))) z) ?_)))
   rcases Bool.eq_false_or_eq_true (decide (a0 = 0)) with c8 | c8
   · have E:=iT c8 E
     refine on_ c8 z z (mv (.int .i64 a1) z) (on_ c8 z z (r_neq z z) (v_ z (pT (.bool (!decide (a1 = 0))) z z c8) (nl ?_)))
     refine wc_cond z (fun c9=>?_) (fun c9=>?_)
     · have E:=iT c9 E
       refine rg (v_ z (sg (.int .u8 0) z) (nl (wc_ret ?_)))
       cases E
       exact (r_thn ⟨.inl z,_,tk0 z ⟨resN z (rv_t rv_nil),z,H.sub1 0 z⟩⟩)
     · have E:=iF c9 E
       refine wc_skip ?_
       exact ⟨k,_,_,Nat.le_refl _,E,upds_eq ⟨z,z,z,z,trivial⟩,H⟩
   · have E:=iF c8 E
     refine off_ c8 z z z (off_ c8 z z z (v_ z (pF (.bool false) z z c8) (nl (wc_condF z (wc_skip ?_)))))
     exact ⟨k,_,_,Nat.le_refl _,E,upds_eq ⟨z,z,z,z,trivial⟩,H⟩
 rintro t w ⟨k6,x4,t5,hk7,E,rfl,H⟩
 unfold shift_Pow.j0 at E
 refine rg (v_ z (mv (.int .i64 x4) z) (v_ z (r_rem z z (by decide)) (v_ z (sg (.int .i64 (Int.tmod x4 255)) z) (nl ?_))))
 refine wc_seqJ (fun t w=>∃ (k14 : Nat) (x12 : Int) (t13 : Fr),k14 ≤ k6 ∧ shift_Pow.j1 k14 a0 x12 = some r ∧ t = upds t13 [(0,.int .u8 a0),(1,.int .i64 x12),(4,.int .u8 0),(1000000,undef)] ∧ St (Rs.gt ).fp w0 w [.gt]) ?_ ?_
 · refine rg (v_ z (mv (.int .i64 (Int.tmod x4 255)) z) (v_ z (r_lss z z) (nl ?_)))
   refine wc_cond z (fun c16=>?_) (fun c16=>?_)
   · have E:=iT c16 E
     refine wc_region (v_ z (mv (.int .i64 (Int.tmod x4 255)) z) (v_ z (r_add z z) (v_ z (sg (.int .i64 (i64.wrap ((Int.tmod x4 255) + 255))) z) (wl_nil ?_))))
     exact ⟨k6,_,_,Nat.le_refl _,E,upds_eq ⟨z,z,z,z,trivial⟩,H⟩
   · have E:=iF c16 E
     refine wc_skip ?_
     exact ⟨k6,_,_,Nat.le_refl _,E,upds_eq ⟨z,z,z,z,trivial⟩,H⟩
 rintro t w ⟨k14,x12,t13,hk15,E,rfl,H⟩
 unfold shift_Pow.j1 at E
 refine rg (v_ z (mv (.int .u8 a0) z) (v_ z (mv (.int .i64 x12) z) (v_ z (r_conv z Tryz.underlying3 Tryz.underlying130) ?_)))
 obtain ⟨x17,E18,E⟩:=bind_some E
 refine e_ z (y_callL h_en_395 z ((shift_power.calls (H.get 0 z) E18).mono ?_))
 rintro _ w ⟨rfl,K⟩
 have H:=H.appX 0 z K
 refine ⟨_,z,(v_ z (sg (.int .u8 x17) z) (nl (wc_ret ?_)))⟩
 cases E
 exact ⟨.inl z,_,tk0 z ⟨resN z (rv_t rv_nil),z,H.sub1 0 z⟩⟩
def field_byShift_Pow.f (k : Nat) (a1 : Int) (a2 : Int) : Option (Int):=(shift_Pow.f k a1 a2).bind fun x2=>some x2
theorem field_byShift_Pow.calls {w0 : World} {k : Nat} {a1 : Int} {a2 : Int} {r : Int} (hf : (Rs.gt ).inv w0) (E : field_byShift_Pow.f k a1 a2 = some r) :
   Calls Tryz.prog 391 #[.agg #[],.int .u8 a1,.int .i64 a2] w0 fun e w'=>e = .returned (.int .u8 r) ∧ St (Rs.gt ).fp w0 w' [.gt]:=by
 have H:=St.start hf
 unfold field_byShift_Pow.f at E
 refine calls_of_wc (N:=10) (args:=[.agg #[],.int .u8 a1,.int .i64 a2]) Tryz.func391 z z (by simp) ?_
 refine rg (e_ z (y_boxS (cs:=#[]) H z (fun b1 w H=>(v_ z (sg (.int .u8 0) z) (nl (rg (v_ z (mv (.int .u8 a1) z) (v_ z (mv (.int .i64 a2) z) ?_))))))))
 obtain ⟨x2,E3,E⟩:=bind_some E
 refine e_ z (y_callL h_en_394 z ((shift_Pow.calls (H.get 0 z) E3).mono ?_))
 rintro _ w ⟨rfl,K⟩
 have H:=H.appX 0 z K
 refine ⟨_,z,(v_ z (sg (.int .u8 x2) z) (nl (wc_ret ?_)))⟩
 cases E
 exact ⟨.inl z,_,tk0 z ⟨resN z (rv_t rv_nil),z,H.sub1 0 z⟩⟩
def field_byShift_pairs.l0 : Nat → List Int → List Int → List (Int) → Int → Option (List Int)
 | 0,_,_,_,_=>none
 | k + 1,a1,a2,l55,x56=>bif decide (x56 < (a1.length : Int)) then (grd (decide ((0 : Int) ≤ x56 ∧ x56 < (a1.length : Int))) (grd (decide ((0 : Int) ≤ x56 ∧ x56 < (a2.length : Int))) ((field_byShift_Mul.f k (at_ 0 a1 x56) (at_ 0 a2 x56)).bind fun x76=>grd (decide ((0 : Int) ≤ x56 ∧ x56 < (l55.length : Int))) (field_byShift_pairs.l0 k a1 a2 (l55.set x56.toNat x76) (i64.wrap (x56 + 1)))))) else (some l55)
def field_byShift_pairs.f (k : Nat) (a1 : List Int) (a2 : List Int) : Option (List Int):=grd (decide ((0 : Int) ≤ (a1.length : Int) ∧ (a1.length : Int) ≤ (a1.length : Int) ∧ (a1.length : Int) ≤ 140737488355328)) (field_byShift_pairs.l0 k a1 a2 (List.replicate (a1.length : Int).toNat (0 : Int)) 0)
theorem field_byShift_pairs.calls {w0 : World} {k : Nat} {a1 : List Int} {a2 : List Int} {v1_ : Value} {v2_ : Value} {r : List Int} (hf : (Rs.gt ).inv w0) (h1 : Rd (.of (.int .u8)) w0 (Ol (Rs.gt ).fp w0) v1_ a1) (h2 : Rd (.of (.int .u8)) w0 (Ol (Rs.gt ).fp w0) v2_ a2) (E : field_byShift_pairs.f k a1 a2 = some r) :
   Calls Tryz.prog 392 #[.agg #[],v1_,v2_] w0 fun e w'=>∃ (u0 : Value),e = .returned (u0) ∧ St (Rs.gt ).fp w0 w' [.gt,.own (.int .u8) 5 u0 r]:=by
 have H:=St.start hf
 unfold field_byShift_pairs.f at E
 refine calls_of_wc (N:=12) (args:=[.agg #[],v1_,v2_]) Tryz.func392 z z (by simp) ?_
 refine rg (e_ z (y_boxS (cs:=#[]) H z (fun b1 w H=>(v_ z (sg (.slice none 0 0) z) (nl (rg (v_ z (r_loadB (l:=[]) h_ag_151 (H.get 1 z) z z z) (v_ z (r_mkF [.agg #[]] [] z z) (v_ z (mv v1_ z) (v_ z (mv v2_ z) (e_ z (y_in 32 [.func (.func 390) #[.agg #[]] #[],v1_,v2_] h_en_388 Tryz.func388 z z z z (rg (v_ z (sg (.slice none 0 0) z) (nl (rg (v_ z (mv v1_ z) (v_ z (r_lenR h_ul_22 (H.rd h1) z) ?_))))))))))))))))))
 obtain ⟨⟨g42,g43,g44⟩,E⟩:=grd_some E
 refine e_ z (y_make (e:=(.int .u8)) (z0:=0) h_sl_22 z H z z g42 g43 (by omega) (by omega) (fun v41 w H=>(v_ z (sg v41 z) (nl (wc_seq (rg (v_ z (mv v1_ z) (v_ z (r_lenR h_ul_22 (H.rd h1) z) (v_ z (mv (.int .i64 0) z) (nl (wc_block ?_)))))))))))
 refine wc_loop (fun kk t w=>∃ (l55 : List (Int)) (x56 : Int) (t69 : Fr),kk ≤ k ∧ field_byShift_pairs.l0 kk a1 a2 l55 x56 = some r ∧ t = upds t69 [(0,.func (.func 390) #[.agg #[]] #[]),(1,v1_),(2,v2_),(6,.slice none 0 0),(7,v41),(13,.int .i64 (a1.length : Int)),(14,.int .i64 x56),(1000000,undef)] ∧ St (Rs.gt ).fp w0 w [.gt,.blk b1 #[] 151,.own (.int .u8) 5 v41 l55]) k ?_ ?_
 · exact ⟨_,_,_,Nat.le_refl _,E,upds_eq ⟨z,z,z,z,z,z,z,z,trivial⟩,H⟩
 rintro kk t w ⟨l55,x56,t69,hk68,E,rfl,H⟩
 obtain ⟨k67,rfl⟩ | rfl : (∃ k',kk = k' + 1) ∨ kk = 0:=by cases kk; exact .inr rfl; exact .inl ⟨_,rfl⟩
 rotate_left
 · cases E
 rw [field_byShift_pairs.l0] at E
 refine rg (v_ z (r_lss z z) (nl (wc_seq ?_)))
 refine wc_cond z (fun c71=>?_) (fun c71=>?_)
 · have E:=iT c71 E
   refine wc_skip (n_thn (wc_seq (wc_block (rg (v_ z (mv (.int .i64 x56) z) (v_ z (sg (.int .i64 x56) z) (nl (wc_drawnS (ds:=[13]) h_mo H z z ?_))))))))
   have H:=H.drew
   refine wt 0 (tf 1 14) z z z (by kernel_rfl) H (fun w H=>(mv v41 z)) (wt 1 (tf 2 14) z z z (by kernel_rfl) H (fun w H=>(mv (.int .i64 x56) z)) (wt 2 (tf 3 14) z z z (by kernel_rfl) H (fun w H=>(mv (.func (.func 390) #[.agg #[]] #[]) z)) (wt 3 (tf 4 14) z z z (by kernel_rfl) H (fun w H=>(mv v1_ z)) (wt 4 (tf 5 14) z z z (by kernel_rfl) H (fun w H=>(mv (.int .i64 x56) z)) ?_))))
   obtain ⟨⟨g72,g73⟩,E⟩:=grd_some E
   refine wt 5 (tf 6 14) z z z (by kernel_rfl) H (fun w H=>(r_idx h_sl_22 (H.rd h1) z z g72 g73)) (wt 6 (tf 7 14) z z z (by kernel_rfl) H (fun w H=>(r_ldI h_sc_5 (H.rd h1) g72 g73 z)) (wt 7 (tf 8 14) z z z (by kernel_rfl) H (fun w H=>(mv v2_ z)) (wt 8 (tf 9 14) z z z (by kernel_rfl) H (fun w H=>(mv (.int .i64 x56) z)) ?_)))
   obtain ⟨⟨g74,g75⟩,E⟩:=grd_some E
   refine wt 9 (tf 10 14) z z z (by kernel_rfl) H (fun w H=>(r_idx h_sl_22 (H.rd h2) z z g74 g75)) (wt 10 (tf 11 14) z z z (by kernel_rfl) H (fun w H=>(r_ldI h_sc_5 (H.rd h2) g74 g75 z)) ?_)
   obtain ⟨x76,E77,E⟩:=bind_some E
   refine wa_one (i:=11) (l':=(tf 12 14)) z z z (by kernel_rfl) (y_callvF z h_en_390 z ((field_byShift_Mul.calls (H.get 0 z) E77).mono ?_))
   rintro _ w ⟨rfl,K⟩
   have H:=H.appX 0 z K
   refine ⟨_,z,⟨fun _=>H.sel [0,1,2] z z,?_⟩⟩
   obtain ⟨⟨g78,g79⟩,E⟩:=grd_some E
   refine wt 12 (tf 13 14) z z z (by kernel_rfl) (H.sel [0,1,2] z z) (fun w H=>(r_idx h_sl_22 (own_rd (H.get 2 z)) z z g78 g79)) (wa_one (i:=13) (l':=(tf 14 14)) z z z (by kernel_rfl) (y_storeI h_sz_5 H 2 z g78 g79 z z (fun w H=>⟨fun h=>(h (by decide)).elim,(wa_done (by kernel_rfl) (n_bk (n_thn (wc_region (v_ z (r_add z z) (v_ z (mv (.int .i64 (i64.wrap (x56 + 1))) z) (wl_nil ?_)))))))⟩)))
   exact ⟨k67,Nat.lt_succ_self _,_,_,_,Nat.le_of_succ_le hk68,E,upds_eq ⟨z,z,z,z,z,z,z,z,trivial⟩,H⟩
 · have E:=iF c71 E
   refine wc_exit (x_thn (x_thn (x_bk (n_thn (rg (v_ z (mv v41 z) (v_ z (sg v41 z) (nl (wc_ret (⟨.inl z,v41,tk0 z ⟨resM z (rv_t rv_nil) z,(v_ z (sg v41 z) (nl (wc_ret ?_)))⟩⟩))))))))))
   cases E
   exact ⟨.inl z,_,tk0 z ⟨resN z (rv_t rv_nil),_,z,H.sub2 0 2 z z z⟩⟩
def table_Table_layL.j0 (k : Nat) (l37 : List Int) : Option (List Int):=some l37
def table_Table_layL.l0 : Nat → List Int → Int → Int → Option (List Int)
 | 0,_,_,_=>none
 | k + 1,l49,x50,x51=>bif decide (x51 < 255) then (grd (decide ((0 : Int) ≤ x51 ∧ x51 < 510)) (grd (decide ((0 : Int) ≤ i64.wrap (x51 + 255) ∧ i64.wrap (x51 + 255) < 510)) (grd (decide ((0 : Int) ≤ x50 ∧ x50 < 256)) ((shift_Mul.f k x50 2).bind fun x73=>table_Table_layL.l0 k (((l49.set (0 + x51.toNat) x50).set (0 + (i64.wrap (x51 + 255)).toNat) x50).set (510 + x50.toNat) (u8.wrap x51)) x73 (i64.wrap (x51 + 1)))))) else (table_Table_layL.j0 k l49)
def table_Table_layL.f (k : Nat)  : Option (List Int):=table_Table_layL.l0 k (List.replicate 766 (0 : Int)) 1 0
theorem table_Table_layL.calls {w0 : World} {k : Nat} {t0_ : Nat} {r : List Int} (hf : St (Rs.tab t0_ true).fp w0 w0 [.blk t0_ (([.int .u32 0,.int .i32 1,.int .u32 0,.int .i32 0] : List Value) ++ (List.replicate 766 (0 : Int)).map (Value.int .u8)).toArray 237,.gt]) (E : table_Table_layL.f k  = some r) :
   Calls Tryz.prog 376 #[pt t0_] w0 fun e w'=>e = .returned (.tuple #[]) ∧ St (Rs.tab t0_ true).fp w0 w' [.blk t0_ (([.int .u32 0,.int .i32 1,.int .u32 0,.int .i32 1] : List Value) ++ r.map (Value.int .u8)).toArray 237,.gt]:=by
 have H:=hf
 unfold table_Table_layL.f at E
 refine calls_of_wc (N:=33) (args:=[pt t0_]) Tryz.func376 z z (by simp) ?_
 refine rg (e_ z (y_allocR (n:=766) h_zrr_235 H (fun b1 w H=>(nl (rg (v_ z (sg (.int .u8 1) z) (nl ?_)))))))
 refine wc_seqJ (fun t w=>∃ (k39 : Nat) (l37 : List Int) (t38 : Fr),k39 ≤ k ∧ table_Table_layL.j0 k39 l37 = some r ∧ t = upds t38 [(0,pt t0_),(2,pt b1),(1000000,undef)] ∧ St (Rs.tab t0_ true).fp w0 w [.blk t0_ (([.int .u32 0,.int .i32 1,.int .u32 0,.int .i32 0] : List Value) ++ (List.replicate 766 (0 : Int)).map (Value.int .u8)).toArray 237,.gt,.own (.int .u8) 235 (.slice (some ⟨b1,0,none⟩) 766 766) l37]) ?_ ?_
 · refine rg (v_ z (mv (.int .i64 0) z) (nl (wc_block ?_)))
   refine wc_loop (fun kk t w=>∃ (l49 : List Int) (x50 : Int) (x51 : Int) (t64 : Fr),kk ≤ k ∧ table_Table_layL.l0 kk l49 x50 x51 = some r ∧ t = upds t64 [(0,pt t0_),(2,pt b1),(3,.int .u8 x50),(5,.int .i64 x51),(1000000,undef)] ∧ St (Rs.tab t0_ true).fp w0 w [.blk t0_ (([.int .u32 0,.int .i32 1,.int .u32 0,.int .i32 0] : List Value) ++ (List.replicate 766 (0 : Int)).map (Value.int .u8)).toArray 237,.gt,.own (.int .u8) 235 (.slice (some ⟨b1,0,none⟩) 766 766) l49]) k ?_ ?_
   · exact ⟨_,_,_,_,Nat.le_refl _,E,upds_eq ⟨z,z,z,z,z,trivial⟩,H⟩
   rintro kk t w ⟨l49,x50,x51,t64,hk63,E,rfl,H⟩
   obtain ⟨k62,rfl⟩ | rfl : (∃ k',kk = k' + 1) ∨ kk = 0:=by cases kk; exact .inr rfl; exact .inl ⟨_,rfl⟩
   rotate_left
   · cases E
   rw [table_Table_layL.l0] at E
   refine rg (v_ z (r_lss z z) (nl (wc_seq ?_)))
   refine wc_cond z (fun c66=>?_) (fun c66=>?_)
   · have E:=iT c66 E
     refine wc_skip (n_thn (wc_seq (wc_block (rg (v_ z (mv (.int .i64 x51) z) (v_ z (sg (.int .i64 x51) z) (nl (rg (v_ z (mv (.int .i64 x51) z) (v_ z (mv (.int .i64 x51) z) (v_ z (r_add z z) (v_ z (mv (.int .u8 x50) z) (v_ z (mv (.int .u8 x50) z) (v_ z (r_faddr h_fa_235_0 z) ?_))))))))))))))
     obtain ⟨⟨g67,g68⟩,E⟩:=grd_some E
     refine v_ z (r_iaddrA h_ar_232 z z g67 g68) (s_ (y_storeArr h_sz_5 H 2 z (by omega) z z (fun w H=>(v_ z (r_faddr h_fa_235_0 z) ?_))))
     obtain ⟨⟨g69,g70⟩,E⟩:=grd_some E
     refine v_ z (r_iaddrA h_ar_232 z z g69 g70) (s_ (y_storeArr h_sz_5 H 2 z (by omega) z z (fun w H=>(nl (rg (v_ z (mv (.int .u8 x50) z) (v_ z (mv (.int .i64 x51) z) (v_ z (r_conv z Tryz.underlying3 Tryz.underlying5) (v_ z (r_faddr h_fa_235_1 z) ?_)))))))))
     obtain ⟨⟨g71,g72⟩,E⟩:=grd_some E
     refine v_ z (r_iaddrA h_ar_233 z z g71 g72) (s_ (y_storeArr h_sz_5 H 2 z (by omega) z z (fun w H=>(nl (wc_region (v_ z (mv (.int .u8 x50) z) ?_))))))
     obtain ⟨x73,E74,E⟩:=bind_some E
     refine e_ z (y_callL h_en_381 z ((shift_Mul.calls (H.get 1 z) E74).mono ?_))
     rintro _ w ⟨rfl,K⟩
     have H:=H.appX 1 z K
     refine ⟨_,z,(v_ z (sg (.int .u8 x73) z) (wl_nil (n_bk (n_thn (wc_region (v_ z (r_add z z) (v_ z (mv (.int .i64 (i64.wrap (x51 + 1))) z) (wl_nil ?_))))))))⟩
     exact ⟨k62,Nat.lt_succ_self _,_,_,_,_,Nat.le_of_succ_le hk63,E,upds_eq ⟨z,z,z,z,z,trivial⟩,H⟩
   · have E:=iF c66 E
     refine wc_exit (x_thn (x_thn (x_bk ?_)))
     exact ⟨k62,_,_,by omega,E,upds_eq ⟨z,z,z,trivial⟩,H⟩
 rintro t w ⟨k39,l37,t38,hk40,E,rfl,H⟩
 unfold table_Table_layL.j0 at E
 refine rg (v_ z (mv (pt t0_) z) (v_ z (r_loadArr h_ag_235 (H.get 2 z) z) (v_ z (r_nilck z) (v_ z (r_faddr h_fa_237_2 z) (s_ (y_storeTbl h_sz_235 H 0 2 z z (by simp) z z (fun w H=>(nl (wc_region (v_ z (mv (pt t0_) z) (v_ z (r_nilck z) (v_ z (r_faddr h_fa_237_1 z) (e_ z (y_addTbl h_en_125 H 0 z z trivial (fun w H=>(wl_nil ?_))))))))))))))))
 cases E
 exact ⟨.inr z,_,tk0 z ⟨resN z rv_nil,z,H.sub2 0 1 z z z⟩⟩
end Go.Proofs.YtkndgkbgbmhjoaaGreatDoor.Gw
