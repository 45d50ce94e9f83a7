/- The card of the law that what a desk encodes is read back from what it tells: a part of its proof. The conditions are those of the statement. -/
import Derived.Test.YtkndgkbgbmhjoaaGreatDoorQ4
import Derived.Test.YtkndgkbgbmhjoaaGreatDoorQ3
import Derived.Test.YtkndgkbgbmhjoaaGreatDoorQ12
import Derived.Test.YtkndgkbgbmhjoaaGreatDoorQ14
import Derived.Test.YtkndgkbgbmhjoaaGreatDoorQ11
namespace Go.Proofs.YtkndgkbgbmhjoaaGreatDoor.Gw
open Go Go.RowKit
set_option linter.unusedVariables false
set_option linter.unusedSimpArgs false
set_option linter.unusedSectionVars false
variable [LibO]
set_option linter.unnecessarySimpa false
set_option maxRecDepth 100000
set_option maxHeartbeats 4000000
open Go.IntKind (i8 i16 i32 i64 u8 u16 u32 u64)
def welch_Points.j0 (l1r : (Int × Int × Int) → List (Int) → List Int → List (Int) → Int → Option (List Int × List Int)) (k : Nat) (a1 : Int × Int × Int) (l36 : List (Int)) : Option (List Int × List Int):=(value_From.f k l36).bind fun x63=>(value_Derive.f k x63).bind fun x66=>grd (decide ((0 : Int) ≤ a1.1 ∧ a1.1 ≤ a1.1 ∧ a1.1 ≤ 140737488355328)) (l1r a1 l36 x66 (List.replicate a1.1.toNat (0 : Int)) 0)
mutual
def welch_Points.l0 : Nat → (Int × Int × Int) → List (Int) → Int → Option (List Int × List Int)
 | 0,_,_,_=>none
 | k + 1,a1,l46,x47=>bif decide (x47 < ((List.replicate a1.1.toNat (0 : Int)).length : Int)) then ((code_Point.f x47).bind fun x59=>grd (decide ((0 : Int) ≤ x47 ∧ x47 < (l46.length : Int))) (welch_Points.l0 k a1 (l46.set x47.toNat x59) (i64.wrap (x47 + 1)))) else (welch_Points.j0 (welch_Points.l1 k) k a1 l46)
def welch_Points.l1 : Nat → (Int × Int × Int) → List (Int) → List Int → List (Int) → Int → Option (List Int × List Int)
 | 0,_,_,_,_,_=>none
 | k + 1,a1,l36,x66,l87,x88=>bif decide (x88 < (l36.length : Int)) then (grd (decide ((0 : Int) ≤ x88 ∧ x88 < (l36.length : Int))) ((field_Field_Pow.f (at_ 0 l36 x88) a1.2.2).bind fun x110=>(value_At.f k x66 (at_ 0 l36 x88)).bind fun x112=>(field_Field_Mul.f x110 x112).bind fun x114=>(field_Field_Inv.f x114).bind fun x116=>grd (decide ((0 : Int) ≤ x88 ∧ x88 < (l87.length : Int))) (welch_Points.l1 k a1 l36 x66 (l87.set x88.toNat x116.1) (i64.wrap (x88 + 1))))) else (some (l36,l87))
end
def welch_Points.f (k : Nat) (a1 : Int × Int × Int) : Option (List Int × List Int):=(code_Right.f (a1.1,a1.2.1,a1.2.2)).bind fun x5=>bif !decide (x5 = 0) then (some (([] : List (Int)),([] : List (Int)))) else (grd (decide ((0 : Int) ≤ a1.1 ∧ a1.1 ≤ a1.1 ∧ a1.1 ≤ 140737488355328)) (welch_Points.l0 k a1 (List.replicate a1.1.toNat (0 : Int)) 0))
theorem welch_Points.calls {w0 : World} {k : Nat} {f0_ : FD} {a1 : Int × Int × Int} {r : List Int × List Int} (hf : (Rs.fld f0_).inv w0) (E : welch_Points.f k a1 = some r) :
   Calls Tryz.prog 184 #[pt f0_.p,.agg #[.int .i64 a1.1,.int .i64 a1.2.1,.int .i64 a1.2.2]] w0 fun e w'=>∃ (u0 : Value) (u1 : Value),e = .returned (.tuple #[u0,u1]) ∧ St (Rs.fld f0_).fp w0 w' [.fld f0_,.own (.int .u8) 5 u0 r.1,.own (.int .u8) 5 u1 r.2]:=by
 have H:=St.start hf
 unfold welch_Points.f at E
 refine calls_of_wc (N:=70) (args:=[pt f0_.p,.agg #[.int .i64 a1.1,.int .i64 a1.2.1,.int .i64 a1.2.2]]) Tryz.func184 z z (by simp) ?_
 refine rg (e_ z (y_boxS (cs:=#[.int .i64 a1.1,.int .i64 a1.2.1,.int .i64 a1.2.2]) H z (fun b1 w H=>(v_ z (sg (.slice none 0 0) z) (v_ z (sg (.slice none 0 0) z) (nl (wc_seq (rg (v_ z (mv (pt f0_.p) z) (v_ z (r_peql0 Tryz.underlying79 z z) (v_ z (mv (.bool false) z) (on_ z z z (r_loadB (l:=[.int .i64 a1.1,.int .i64 a1.2.1,.int .i64 a1.2.2]) e_ag_24 (H.get 1 z) z z z) ?_))))))))))))
 obtain ⟨x5,E6,E⟩:=bind_some E
 refine wl_on z z z (y_callL e_en_38 z ((code_Right.calls E6).mono ?_))
 rintro _ w ⟨rfl,K⟩
 have H:=H.app K
 refine ⟨_,z,(on_ z z z (r_neq z z) (v_ z (pF (.bool (!decide (x5 = 0))) z z z) (nl ?_)))⟩
 refine wc_cond z (fun c7=>?_) (fun c7=>?_)
 · have E:=iT c7 E
   refine rg (v_ z (sg (.slice none 0 0) z) (v_ z (sg (.slice none 0 0) z) (nl (wc_ret ?_))))
   have H:=H.nilOwn (.int .u8) 5
   have H:=H.nilOwn (.int .u8) 5
   cases E
   exact (r_thn ⟨.inl z,_,tk0 z ⟨resN z (rv_t (rv_t rv_nil)),_,_,z,H.sub3 0 2 3 z z z z z z⟩⟩)
 · have E:=iF c7 E
   refine wc_skip (n_thn (rg (v_ z (r_faddr e_fa_24_0 z) (v_ z (r_load e_sc_3 z (blk_cell (H.get 1 z) z)) ?_))))
   obtain ⟨⟨g9,g10,g11⟩,E⟩:=grd_some E
   refine e_ z (y_make (e:=(.int .u8)) (z0:=0) e_sl_22 z H z z g9 g10 (by omega) (by omega) (fun v8 w H=>(v_ z (sg v8 z) (nl ?_))))
   refine wc_seqJ (fun t w=>∃ (k38 : Nat) (l36 : List (Int)) (t37 : Fr),k38 ≤ k ∧ welch_Points.j0 (welch_Points.l1 k38) k38 a1 l36 = some r ∧ t = upds t37 [(0,pt f0_.p),(3,pt b1),(4,.slice none 0 0),(5,.slice none 0 0),(6,v8),(1000000,undef)] ∧ St (Rs.fld f0_).fp w0 w [.fld f0_,.blk b1 #[.int .i64 a1.1,.int .i64 a1.2.1,.int .i64 a1.2.2] 24,.own (.int .u8) 5 v8 l36]) ?_ ?_
   · refine rg (v_ z (mv v8 z) (v_ z (r_lenR e_ul_22 (own_rd (H.get 2 z)) z) (v_ z (mv (.int .i64 0) z) (nl (wc_block ?_)))))
     refine wc_loop (fun kk t w=>∃ (l46 : List (Int)) (x47 : Int) (t56 : Fr),kk ≤ k ∧ welch_Points.l0 kk a1 l46 x47 = some r ∧ t = upds t56 [(0,pt f0_.p),(3,pt b1),(4,.slice none 0 0),(5,.slice none 0 0),(6,v8),(23,.int .i64 ((List.replicate a1.1.toNat (0 : Int)).length : Int)),(24,.int .i64 x47),(1000000,undef)] ∧ St (Rs.fld f0_).fp w0 w [.fld f0_,.blk b1 #[.int .i64 a1.1,.int .i64 a1.2.1,.int .i64 a1.2.2] 24,.own (.int .u8) 5 v8 l46]) k ?_ ?_
     · exact ⟨_,_,_,Nat.le_refl _,E,upds_eq ⟨z,z,z,z,z,z,z,z,trivial⟩,H⟩
     rintro kk t w ⟨l46,x47,t56,hk55,E,rfl,H⟩
     obtain ⟨k54,rfl⟩ | rfl : (∃ k',kk = k' + 1) ∨ kk = 0:=by cases kk; exact .inr rfl; exact .inl ⟨_,rfl⟩
     rotate_left
     · cases E
     rw [welch_Points.l0] at E
     refine rg (v_ z (r_lss z z) (nl (wc_seq ?_)))
     refine wc_cond z (fun c58=>?_) (fun c58=>?_)
     · have E:=iT c58 E
       refine wc_skip (n_thn (wc_seq (wc_block (rg (v_ z (mv (.int .i64 x47) z) (v_ z (sg (.int .i64 x47) z) (nl (wc_region (v_ z (mv v8 z) (v_ z (mv (.int .i64 x47) z) (v_ z (mv (pt f0_.p) z) (v_ z (mv (.int .i64 x47) z) ?_))))))))))))
       obtain ⟨x59,E60,E⟩:=bind_some E
       refine e_ z (y_callL e_en_140 z ((code_Point.calls (H.get 0 z) E60).mono ?_))
       rintro _ w ⟨rfl,K⟩
       have H:=H.appX 0 z K
       refine ⟨_,z,?_⟩
       obtain ⟨⟨g61,g62⟩,E⟩:=grd_some E
       refine v_ z (r_idx e_sl_22 (own_rd (H.get 2 z)) z z g61 g62) (s_ (y_storeI e_sz_5 H 2 z g61 g62 z z (fun w H=>(wl_nil (n_bk (n_thn (wc_region (v_ z (r_add z z) (v_ z (mv (.int .i64 (i64.wrap (x47 + 1))) z) (wl_nil ?_))))))))))
       exact ⟨k54,Nat.lt_succ_self _,_,_,_,Nat.le_of_succ_le hk55,E,upds_eq ⟨z,z,z,z,z,z,z,z,trivial⟩,H⟩
     · have E:=iF c58 E
       refine wc_exit (x_thn (x_thn (x_bk ?_)))
       exact ⟨k54,_,_,by omega,E,upds_eq ⟨z,z,z,z,z,z,trivial⟩,H⟩
   rintro t w ⟨k38,l36,t37,hk39,E,rfl,H⟩
   unfold welch_Points.j0 at E
   refine rg (v_ z (mv (pt f0_.p) z) (v_ z (mv v8 z) ?_))
   obtain ⟨x63,E64,E⟩:=bind_some E
   refine e_ z (y_callL e_en_173 z ((value_From.calls (H.get 0 z) (H.ownX 2 0 z z z (own_rd (H.get 2 z))) E64).mono ?_))
   rintro _ w ⟨v65,rfl,K⟩
   have H:=H.appX 0 z K
   refine ⟨_,z,?_⟩
   obtain ⟨x66,E67,E⟩:=bind_some E
   refine e_ z (y_callL e_en_240 z ((value_Derive.calls (H.own 3 z (own_rd (H.get 3 z))) E67).mono ?_))
   rintro _ w ⟨v68,rfl,K⟩
   have H:=H.app K
   refine ⟨_,z,(v_ z (sg v68 z) (nl (rg (v_ z (r_faddr e_fa_24_0 z) (v_ z (r_load e_sc_3 z (blk_cell (H.get 1 z) z)) ?_)))))⟩
   obtain ⟨⟨g70,g71,g72⟩,E⟩:=grd_some E
   refine e_ z (y_make (e:=(.int .u8)) (z0:=0) e_sl_22 z H z z g70 g71 (by omega) (by omega) (fun v69 w H=>(v_ z (sg v69 z) (nl (wc_seq (rg (v_ z (mv v8 z) (v_ z (r_lenR e_ul_22 (own_rd (H.get 2 z)) z) (v_ z (mv (.int .i64 0) z) (nl (wc_block ?_)))))))))))
   refine wc_loop (fun kk t w=>∃ (l87 : List (Int)) (x88 : Int) (t105 : Fr),kk ≤ k38 ∧ welch_Points.l1 kk a1 l36 x66 l87 x88 = some r ∧ t = upds t105 [(0,pt f0_.p),(3,pt b1),(4,.slice none 0 0),(5,.slice none 0 0),(6,v8),(8,v68),(9,v69),(41,v8),(42,.int .i64 (l36.length : Int)),(43,.int .i64 x88),(1000000,undef)] ∧ St (Rs.fld f0_).fp w0 w [.fld f0_,.blk b1 #[.int .i64 a1.1,.int .i64 a1.2.1,.int .i64 a1.2.2] 24,.own (.int .u8) 5 v8 l36,.own (.int .u8) 5 v65 x63,.own (.int .u8) 5 v68 x66,.own (.int .u8) 5 v69 l87]) k38 ?_ ?_
   · exact ⟨_,_,_,Nat.le_refl _,E,upds_eq ⟨z,z,z,z,z,z,z,z,z,z,z,trivial⟩,H⟩
   rintro kk t w ⟨l87,x88,t105,hk104,E,rfl,H⟩
   obtain ⟨k103,rfl⟩ | rfl : (∃ k',kk = k' + 1) ∨ kk = 0:=by cases kk; exact .inr rfl; exact .inl ⟨_,rfl⟩
   rotate_left
   · cases E
   rw [welch_Points.l1] at E
   refine rg (v_ z (r_lss z z) (nl (wc_seq ?_)))
   refine wc_cond z (fun c107=>?_) (fun c107=>?_)
   · have E:=iT c107 E
     refine wc_skip (n_thn (wc_seq (wc_block (rg (v_ z (mv (.int .i64 x88) z) ?_)))))
     obtain ⟨⟨g108,g109⟩,E⟩:=grd_some E
     refine v_ z (r_idx e_sl_22 (own_rd (H.get 2 z)) z z g108 g109) (v_ z (r_ldI e_sc_5 (own_rd (H.get 2 z)) g108 g109 z) (v_ z (sg (.int .i64 x88) z) (v_ z (sg (.int .u8 (at_ 0 l36 x88)) z) (nl (wc_region (v_ z (mv v69 z) (v_ z (mv (.int .i64 x88) z) (v_ z (mv (pt f0_.p) z) (v_ z (mv (pt f0_.p) z) (v_ z (mv (pt f0_.p) z) (v_ z (mv (.int .u8 (at_ 0 l36 x88)) z) (v_ z (r_faddr e_fa_24_2 z) (v_ z (r_load e_sc_3 z (blk_cell (H.get 1 z) z)) ?_)))))))))))))
     obtain ⟨x110,E111,E⟩:=bind_some E
     refine e_ z (y_callL e_en_197 z ((field_Field_Pow.calls (H.get 0 z) E111).mono ?_))
     rintro _ w ⟨rfl,K⟩
     have H:=H.appX 0 z K
     refine ⟨_,z,(v_ z (mv (pt f0_.p) z) (v_ z (mv v68 z) (v_ z (mv (.int .u8 (at_ 0 l36 x88)) z) ?_)))⟩
     obtain ⟨x112,E113,E⟩:=bind_some E
     refine e_ z (y_callL e_en_138 z ((value_At.calls (H.get 0 z) (H.ownX 4 0 z z z (own_rd (H.get 4 z))) E113).mono ?_))
     rintro _ w ⟨rfl,K⟩
     have H:=H.appX 0 z K
     refine ⟨_,z,?_⟩
     obtain ⟨x114,E115,E⟩:=bind_some E
     refine e_ z (y_callL e_en_195 z ((field_Field_Mul.calls (H.get 0 z) E115).mono ?_))
     rintro _ w ⟨rfl,K⟩
     have H:=H.appX 0 z K
     refine ⟨_,z,?_⟩
     obtain ⟨x116,E117,E⟩:=bind_some E
     refine e_ z (y_callL e_en_221 z ((field_Field_Inv.calls (H.get 0 z) E117).mono ?_))
     rintro _ w ⟨rfl,K⟩
     have H:=H.appX 0 z K
     refine ⟨_,z,(v_ z (r_move) (v_ z (r_extract z z) (v_ z (r_extract z z) ?_)))⟩
     obtain ⟨⟨g118,g119⟩,E⟩:=grd_some E
     refine v_ z (r_idx e_sl_22 (own_rd (H.get 5 z)) z z g118 g119) (s_ (y_storeI e_sz_5 H 5 z g118 g119 z z (fun w H=>(wl_nil (n_bk (n_thn (wc_region ?_)))))))
     have H : St (Rs.fld f0_).fp w0 _ [.fld f0_,.blk b1 #[.int .i64 a1.1,.int .i64 a1.2.1,.int .i64 a1.2.2] 24,.own (.int .u8) 5 v8 l36,.own (.int .u8) 5 v65 x63,.own (.int .u8) 5 v68 x66,.own (.int .u8) 5 v69 (l87.set x88.toNat x116.1)]:=H
     refine v_ z (r_add z z) (v_ z (mv (.int .i64 (i64.wrap (x88 + 1))) z) (wl_nil ?_))
     exact ⟨k103,Nat.lt_succ_self _,_,_,_,Nat.le_of_succ_le hk104,E,upds_eq ⟨z,z,z,z,z,z,z,z,z,z,z,trivial⟩,H⟩
   · have E:=iF c107 E
     refine wc_exit (x_thn (x_thn (x_bk (n_thn (rg (v_ z (mv v8 z) (v_ z (mv v69 z) (v_ z (sg v8 z) (v_ z (sg v69 z) (nl (wc_ret ?_)))))))))))
     cases E
     exact ⟨.inl z,_,tk0 z ⟨resN z (rv_t (rv_t rv_nil)),_,_,z,H.sub3 0 2 5 z z z z z z⟩⟩
def math_bits_Len64.j1 (x13 : Int) (x14 : Int) : Option (Int):=bif decide (256 ≤ x13) then (grd (decide ((0 : Int) ≤ u8.wrap (Int.fdiv x13 (2 ^ (min (8 : Int).toNat 64))) ∧ u8.wrap (Int.fdiv x13 (2 ^ (min (8 : Int).toNat 64))) < (e_str0.size : Int))) (some (i64.wrap ((i64.wrap (x14 + 8)) + (i64.wrap (sat e_str0 (u8.wrap (Int.fdiv x13 (2 ^ (min (8 : Int).toNat 64)))))))))) else (grd (decide ((0 : Int) ≤ u8.wrap x13 ∧ u8.wrap x13 < (e_str0.size : Int))) (some (i64.wrap (x14 + (i64.wrap (sat e_str0 (u8.wrap x13)))))))
def math_bits_Len64.j0 (x4 : Int) (x5 : Int) : Option (Int):=bif decide (65536 ≤ x4) then (math_bits_Len64.j1 (Int.fdiv x4 (2 ^ (min (16 : Int).toNat 64))) (i64.wrap (x5 + 16))) else (math_bits_Len64.j1 x4 x5)
def math_bits_Len64.f (a0 : Int) : Option (Int):=bif decide (4294967296 ≤ a0) then (math_bits_Len64.j0 (Int.fdiv a0 (2 ^ (min (32 : Int).toNat 64))) 32) else (math_bits_Len64.j0 a0 0)
theorem math_bits_Len64.calls {w0 : World} {a0 : Int} {r : Int}  (E : math_bits_Len64.f a0 = some r) :
   Calls Tryz.prog 211 #[.int .u64 a0] w0 fun e w'=>e = .returned (.int .i64 r) ∧ St no w0 w' []:=by
 have H:=St.nil no w0
 unfold math_bits_Len64.f at E
 refine calls_of_wc (N:=25) (args:=[.int .u64 a0]) Tryz.func211 z z (by simp) ?_
 obtain ⟨k,_⟩ : ∃ k : Nat,k = 0:=⟨0,rfl⟩
 refine rg (v_ z (sg (.int .i64 0) z) (nl ?_))
 refine wc_seqJ (fun t w=>∃ (k7 : Nat) (x4 : Int) (x5 : Int) (t6 : Fr),k7 ≤ k ∧ math_bits_Len64.j0 x4 x5 = some r ∧ t = upds t6 [(0,.int .u64 x4),(2,.int .i64 x5),(1000000,undef)] ∧ St no w0 w []) ?_ ?_
 · refine rg (v_ z (mv (.int .u64 a0) z) (v_ z (r_geq z z) (nl ?_)))
   refine wc_cond z (fun c9=>?_) (fun c9=>?_)
   · have E:=iT c9 E
     refine rg (v_ z (mv (.int .u64 a0) z) (v_ z (r_shr z z (by decide)) (v_ z (sg (.int .u64 (Int.fdiv a0 (2 ^ (min (32 : Int).toNat 64)))) z) (nl (wc_region (v_ z (sg (.int .i64 32) z) (wl_nil ?_)))))))
     exact ⟨k,_,_,_,Nat.le_refl _,E,upds_eq ⟨z,z,z,trivial⟩,H⟩
   · have E:=iF c9 E
     refine wc_skip ?_
     exact ⟨k,_,_,_,Nat.le_refl _,E,upds_eq ⟨z,z,z,trivial⟩,H⟩
 rintro t w ⟨k7,x4,x5,t6,hk8,E,rfl,H⟩
 unfold math_bits_Len64.j0 at E
 refine wc_seqJ (fun t w=>∃ (k16 : Nat) (x13 : Int) (x14 : Int) (t15 : Fr),k16 ≤ k7 ∧ math_bits_Len64.j1 x13 x14 = some r ∧ t = upds t15 [(0,.int .u64 x13),(2,.int .i64 x14),(1000000,undef)] ∧ St no w0 w []) ?_ ?_
 · refine rg (v_ z (mv (.int .u64 x4) z) (v_ z (r_geq z z) (nl ?_)))
   refine wc_cond z (fun c18=>?_) (fun c18=>?_)
   · have E:=iT c18 E
     refine rg (v_ z (mv (.int .u64 x4) z) (v_ z (r_shr z z (by decide)) (v_ z (sg (.int .u64 (Int.fdiv x4 (2 ^ (min (16 : Int).toNat 64)))) z) (nl (wc_region (v_ z (mv (.int .i64 x5) z) (v_ z (r_add z z) (v_ z (sg (.int .i64 (i64.wrap (x5 + 16))) z) (wl_nil ?_)))))))))
     exact ⟨k7,_,_,_,Nat.le_refl _,E,upds_eq ⟨z,z,z,trivial⟩,H⟩
   · have E:=iF c18 E
     refine wc_skip ?_
     exact ⟨k7,_,_,_,Nat.le_refl _,E,upds_eq ⟨z,z,z,trivial⟩,H⟩
 rintro t w ⟨k16,x13,x14,t15,hk17,E,rfl,H⟩
 unfold math_bits_Len64.j1 at E
 refine wc_seq (rg (v_ z (mv (.int .u64 x13) z) (v_ z (r_geq z z) (nl ?_))))
 refine wc_cond z (fun c19=>?_) (fun c19=>?_)
 · have E:=iT c19 E
   refine rg (v_ z (mv (.int .u64 x13) z) (v_ z (r_shr z z (by decide)) (v_ z (sg (.int .u64 (Int.fdiv x13 (2 ^ (min (8 : Int).toNat 64)))) z) (nl (wc_region (v_ z (mv (.int .i64 x14) z) (v_ z (r_add z z) (v_ z (sg (.int .i64 (i64.wrap (x14 + 8))) z) (nl (rg (v_ z (mv (.int .i64 (i64.wrap (x14 + 8))) z) (v_ z (mv (.int .u64 (Int.fdiv x13 (2 ^ (min (8 : Int).toNat 64)))) z) (v_ z (r_conv z Tryz.underlying261 Tryz.underlying5) ?_)))))))))))))
   obtain ⟨⟨g20,g21⟩,E⟩:=grd_some E
   refine v_ z (r_idxS Tryz.underlying9 z z g20 g21) (v_ z (r_conv z Tryz.underlying5 Tryz.underlying3) (v_ z (r_add z z) (v_ z (sg (.int .i64 (i64.wrap ((i64.wrap (x14 + 8)) + (i64.wrap (sat e_str0 (u8.wrap (Int.fdiv x13 (2 ^ (min (8 : Int).toNat 64))))))))) z) (nl (wc_ret ?_)))))
   cases E
   exact ⟨.inl z,_,tk0 z ⟨resN z (rv_t rv_nil),z,H.sub0⟩⟩
 · have E:=iF c19 E
   refine wc_skip (n_thn (rg (v_ z (mv (.int .i64 x14) z) (v_ z (mv (.int .u64 x13) z) (v_ z (r_conv z Tryz.underlying261 Tryz.underlying5) ?_)))))
   obtain ⟨⟨g22,g23⟩,E⟩:=grd_some E
   refine v_ z (r_idxS Tryz.underlying9 z z g22 g23) (v_ z (r_conv z Tryz.underlying5 Tryz.underlying3) (v_ z (r_add z z) (v_ z (sg (.int .i64 (i64.wrap (x14 + (i64.wrap (sat e_str0 (u8.wrap x13)))))) z) (nl (wc_ret ?_)))))
   cases E
   exact ⟨.inl z,_,tk0 z ⟨resN z (rv_t rv_nil),z,H.sub0⟩⟩
def math_bits_Len.f (a0 : Int) : Option (Int):=(math_bits_Len64.f a0).bind fun x1=>some x1
theorem math_bits_Len.calls {w0 : World} {a0 : Int} {r : Int}  (E : math_bits_Len.f a0 = some r) :
   Calls Tryz.prog 202 #[.int .u64 a0] w0 fun e w'=>e = .returned (.int .i64 r) ∧ St no w0 w' []:=by
 have H:=St.nil no w0
 unfold math_bits_Len.f at E
 refine calls_of_wc (N:=8) (args:=[.int .u64 a0]) Tryz.func202 z z (by simp) ?_
 refine rg (v_ z (sg (.int .i64 0) z) (nl (wc_seq (wc_condF z (wc_skip (n_thn (rg (v_ z (mv (.int .u64 a0) z) ?_))))))))
 obtain ⟨x1,E2,E⟩:=bind_some E
 refine e_ z (y_callL e_en_211 z ((math_bits_Len64.calls E2).mono ?_))
 rintro _ w ⟨rfl,K⟩
 have H:=H.app K
 refine ⟨_,z,(v_ z (sg (.int .i64 x1) z) (nl (wc_ret ?_)))⟩
 cases E
 exact ⟨.inl z,_,tk0 z ⟨resN z (rv_t rv_nil),z,H.sub0⟩⟩
def cmp_isNaN_347.f (a0 : Int) : Option (Bool):=some (!decide (a0 = a0))
theorem cmp_isNaN_347.calls {w0 : World} {a0 : Int} {r : Bool}  (E : cmp_isNaN_347.f a0 = some r) :
   Calls Tryz.prog 347 #[.int .u8 a0] w0 fun e w'=>e = .returned (.bool r) ∧ St no w0 w' []:=by
 have H:=St.nil no w0
 unfold cmp_isNaN_347.f at E
 refine calls_of_wc (N:=6) (args:=[.int .u8 a0]) Tryz.func347 z z (by simp) ?_
 refine rg (v_ z (sg (.bool false) z) (nl (rg (v_ z (mv (.int .u8 a0) z) (v_ z (mv (.int .u8 a0) z) (v_ z (r_neq z z) (v_ z (sg (.bool (!decide (a0 = a0))) z) (nl (wc_ret ?_)))))))))
 cases E
 exact ⟨.inl z,_,tk0 z ⟨resN z (rv_t rv_nil),z,H.sub0⟩⟩
def cmp_Less_337.f (a0 : Int) (a1 : Int) : Option (Bool):=(cmp_isNaN_347.f a0).bind fun x1=>bif x1 then ((cmp_isNaN_347.f a1).bind fun x4=>bif !x4 then (some true) else (some (decide (a0 < a1)))) else (some (decide (a0 < a1)))
theorem cmp_Less_337.calls {w0 : World} {a0 : Int} {a1 : Int} {r : Bool}  (E : cmp_Less_337.f a0 a1 = some r) :
   Calls Tryz.prog 337 #[.int .u8 a0,.int .u8 a1] w0 fun e w'=>e = .returned (.bool r) ∧ St no w0 w' []:=by
 have H:=St.nil no w0
 unfold cmp_Less_337.f at E
 refine calls_of_wc (N:=17) (args:=[.int .u8 a0,.int .u8 a1]) Tryz.func337 z z (by simp) ?_
 refine rg (v_ z (sg (.bool false) z) (nl (rg (v_ z (mv (.int .u8 a0) z) ?_))))
 obtain ⟨x1,E2,E⟩:=bind_some E
 refine e_ z (y_callL e_en_347 z ((cmp_isNaN_347.calls E2).mono ?_))
 rintro _ w ⟨rfl,K⟩
 have H:=H.app K
 refine ⟨_,z,(v_ z (mv (.bool x1) z) ?_)⟩
 rcases Bool.eq_false_or_eq_true (x1) with c3 | c3
 · have E:=iT c3 E
   refine on_ c3 z z (mv (.int .u8 a1) z) ?_
   obtain ⟨x4,E5,E⟩:=bind_some E
   refine wl_on z c3 z (y_callL e_en_347 z ((cmp_isNaN_347.calls E5).mono ?_))
   rintro _ w ⟨rfl,K⟩
   have H:=H.app K
   refine ⟨_,z,(on_ c3 z z (r_not z) (v_ z (pT (.bool (!x4)) z z c3) (v_ z (mv (.bool (!x4)) z) ?_)))⟩
   rcases Bool.eq_false_or_eq_true (!x4) with c6 | c6
   · have E:=iT c6 E
     refine off_ c6 z z z (off_ c6 z z z (off_ c6 z z z (v_ z (pT (.bool true) z z c6) (v_ z (sg (.bool true) z) (nl (wc_ret ?_))))))
     cases E
     exact ⟨.inl z,_,tk0 z ⟨resN z (rv_t rv_nil),z,H.sub0⟩⟩
   · have E:=iF c6 E
     refine on_ c6 z z (mv (.int .u8 a0) z) (on_ c6 z z (mv (.int .u8 a1) z) (on_ c6 z z (r_lss z z) (v_ z (pF (.bool (decide (a0 < a1))) z z c6) (v_ z (sg (.bool (decide (a0 < a1))) z) (nl (wc_ret ?_))))))
     cases E
     exact ⟨.inl z,_,tk0 z ⟨resN z (rv_t rv_nil),z,H.sub0⟩⟩
 · have E:=iF c3 E
   refine off_ c3 z z z (off_ c3 z z z (off_ c3 z z z (v_ z (pF (.bool false) z z c3) (v_ z (mv (.bool false) z) (on_ z z z (mv (.int .u8 a0) z) (on_ z z z (mv (.int .u8 a1) z) (on_ z z z (r_lss z z) (v_ z (pF (.bool (decide (a0 < a1))) z z z) (v_ z (sg (.bool (decide (a0 < a1))) z) (nl (wc_ret ?_)))))))))))
   cases E
   exact ⟨.inl z,_,tk0 z ⟨resN z (rv_t rv_nil),z,H.sub0⟩⟩
def welch_powers.l0 : Nat → Int → Int → List (Int) → Int → Option (List Int)
 | 0,_,_,_,_=>none
 | k + 1,a1,a2,l11,x12=>bif decide (x12 < ((List.replicate a2.toNat (0 : Int)).length : Int)) then ((field_Field_Pow.f a1 x12).bind fun x24=>grd (decide ((0 : Int) ≤ x12 ∧ x12 < (l11.length : Int))) (welch_powers.l0 k a1 a2 (l11.set x12.toNat x24) (i64.wrap (x12 + 1)))) else (some l11)
def welch_powers.f (k : Nat) (a1 : Int) (a2 : Int) : Option (List Int):=grd (decide ((0 : Int) ≤ a2 ∧ a2 ≤ a2 ∧ a2 ≤ 140737488355328)) (welch_powers.l0 k a1 a2 (List.replicate a2.toNat (0 : Int)) 0)
theorem welch_powers.calls {w0 : World} {k : Nat} {f0_ : FD} {a1 : Int} {a2 : Int} {r : List Int} (hf : (Rs.fld f0_).inv w0) (E : welch_powers.f k a1 a2 = some r) :
   Calls Tryz.prog 285 #[pt f0_.p,.int .u8 a1,.int .i64 a2] w0 fun e w'=>∃ (u0 : Value),e = .returned (u0) ∧ St (Rs.fld f0_).fp w0 w' [.fld f0_,.own (.int .u8) 5 u0 r]:=by
 have H:=St.start hf
 unfold welch_powers.f at E
 refine calls_of_wc (N:=25) (args:=[pt f0_.p,.int .u8 a1,.int .i64 a2]) Tryz.func285 z z (by simp) ?_
 refine rg (v_ z (sg (.slice none 0 0) z) (nl (rg (v_ z (mv (.int .i64 a2) z) ?_))))
 obtain ⟨⟨g2,g3,g4⟩,E⟩:=grd_some E
 refine e_ z (y_make (e:=(.int .u8)) (z0:=0) e_sl_22 z H z z g2 g3 (by omega) (by omega) (fun v1 w H=>(v_ z (sg v1 z) (nl (wc_seq (rg (v_ z (mv v1 z) (v_ z (r_lenR e_ul_22 (own_rd (H.get 1 z)) z) (v_ z (mv (.int .i64 0) z) (nl (wc_block ?_)))))))))))
 refine wc_loop (fun kk t w=>∃ (l11 : List (Int)) (x12 : Int) (t21 : Fr),kk ≤ k ∧ welch_powers.l0 kk a1 a2 l11 x12 = some r ∧ t = upds t21 [(0,pt f0_.p),(1,.int .u8 a1),(6,.slice none 0 0),(7,v1),(12,.int .i64 ((List.replicate a2.toNat (0 : Int)).length : Int)),(13,.int .i64 x12),(1000000,undef)] ∧ St (Rs.fld f0_).fp w0 w [.fld f0_,.own (.int .u8) 5 v1 l11]) k ?_ ?_
 · exact ⟨_,_,_,Nat.le_refl _,E,upds_eq ⟨z,z,z,z,z,z,z,trivial⟩,H⟩
 rintro kk t w ⟨l11,x12,t21,hk20,E,rfl,H⟩
 obtain ⟨k19,rfl⟩ | rfl : (∃ k',kk = k' + 1) ∨ kk = 0:=by cases kk; exact .inr rfl; exact .inl ⟨_,rfl⟩
 rotate_left
 · cases E
 rw [welch_powers.l0] at E
 refine rg (v_ z (r_lss z z) (nl (wc_seq ?_)))
 refine wc_cond z (fun c23=>?_) (fun c23=>?_)
 · have E:=iT c23 E
   refine wc_skip (n_thn (wc_seq (wc_block (rg (v_ z (mv (.int .i64 x12) z) (v_ z (sg (.int .i64 x12) z) (nl (wc_region (v_ z (mv v1 z) (v_ z (mv (.int .i64 x12) z) (v_ z (mv (pt f0_.p) z) (v_ z (mv (.int .u8 a1) z) (v_ z (mv (.int .i64 x12) z) ?_)))))))))))))
   obtain ⟨x24,E25,E⟩:=bind_some E
   refine e_ z (y_callL e_en_197 z ((field_Field_Pow.calls (H.get 0 z) E25).mono ?_))
   rintro _ w ⟨rfl,K⟩
   have H:=H.appX 0 z K
   refine ⟨_,z,?_⟩
   obtain ⟨⟨g26,g27⟩,E⟩:=grd_some E
   refine v_ z (r_idx e_sl_22 (own_rd (H.get 1 z)) z z g26 g27) (s_ (y_storeI e_sz_5 H 1 z g26 g27 z z (fun w H=>(wl_nil (n_bk (n_thn (wc_region (v_ z (r_add z z) (v_ z (mv (.int .i64 (i64.wrap (x12 + 1))) z) (wl_nil ?_))))))))))
   exact ⟨k19,Nat.lt_succ_self _,_,_,_,Nat.le_of_succ_le hk20,E,upds_eq ⟨z,z,z,z,z,z,z,trivial⟩,H⟩
 · have E:=iF c23 E
   refine wc_exit (x_thn (x_thn (x_bk (n_thn (rg (v_ z (mv v1 z) (v_ z (sg v1 z) (nl (wc_ret ?_)))))))))
   cases E
   exact ⟨.inl z,_,tk0 z ⟨resN z (rv_t rv_nil),_,z,H.sub2 0 1 z z z⟩⟩
def slices_Concat.j1 (l1r : List (List Int) → List (Int) → Int → Option (List Int)) (k : Nat) (a0 : List (List Int)) (l72 : List (Int)) : Option (List Int):=l1r a0 l72 0
def slices_Concat.j0 (l1r : List (List Int) → List (Int) → Int → Option (List Int)) (k : Nat) (a0 : List (List Int)) (x28 : Int) : Option (List Int):=bif decide (x28 < 0) then (none) else (bif decide (0 < i64.wrap (x28 - 0)) then (grd (decide ((0 : Int) < i64.wrap (x28 - 0) ∧ 1 * (i64.wrap (x28 - 0)) ≤ 140737488355328)) (grd (decide ((0 : Int) ≤ 0 ∧ 0 ≤ ((List.replicate (i64.wrap (x28 - 0)).toNat (0 : Int)).length : Int))) (slices_Concat.j1 l1r k a0 ((List.replicate (i64.wrap (x28 - 0)).toNat (0 : Int)).take ((0 : Int).toNat))))) else (slices_Concat.j1 l1r k a0 ([] : List (Int))))
mutual
def slices_Concat.l0 : Nat → List (List Int) → Int → Int → Option (List Int)
 | 0,_,_,_=>none
 | k + 1,a0,x39,x40=>bif decide (x40 < (a0.length : Int)) then (grd (decide ((0 : Int) ≤ x40 ∧ x40 < (a0.length : Int))) (bif decide (i64.wrap (x39 + ((at_ [] a0 x40).length : Int)) < 0) then (none) else (slices_Concat.l0 k a0 (i64.wrap (x39 + ((at_ [] a0 x40).length : Int))) (i64.wrap (x40 + 1))))) else (slices_Concat.j0 (slices_Concat.l1 k) k a0 x39)
def slices_Concat.l1 : Nat → List (List Int) → List (Int) → Int → Option (List Int)
 | 0,_,_,_=>none
 | k + 1,a0,l94,x95=>bif decide (x95 < (a0.length : Int)) then (grd (decide ((0 : Int) ≤ x95 ∧ x95 < (a0.length : Int))) (grd (decide ((l94.length + (at_ [] a0 x95).length) * 1 ≤ 140737488355328)) (slices_Concat.l1 k a0 (l94 ++ (at_ [] a0 x95)) (i64.wrap (x95 + 1))))) else (some l94)
end
def slices_Concat.f (k : Nat) (a0 : List (List Int)) : Option (List Int):=slices_Concat.l0 k a0 0 0
theorem slices_Concat.calls {w0 : World} {k : Nat} {a0 : List (List Int)} {v0_ : Value} {r : List Int} (h0 : Rd (.sl (.of (.int .u8))) w0 (Ol no w0) v0_ a0) (E : slices_Concat.f k a0 = some r) :
   Calls Tryz.prog 317 #[v0_] w0 fun e w'=>∃ (u0 : Value),e = .returned (u0) ∧ St no w0 w' [.own (.int .u8) 5 u0 r]:=by
 have H:=St.nil no w0
 unfold slices_Concat.f at E
 refine calls_of_wc (N:=36) (args:=[v0_]) Tryz.func317 z z (by simp) ?_
 refine rg (v_ z (sg (.slice none 0 0) z) (nl (rg (v_ z (sg (.int .i64 0) z) (nl ?_)))))
 refine wc_seqJ (fun t w=>∃ (k30 : Nat) (x28 : Int) (t29 : Fr),k30 ≤ k ∧ slices_Concat.j0 (slices_Concat.l1 k30) k30 a0 x28 = some r ∧ t = upds t29 [(0,v0_),(2,.slice none 0 0),(3,.int .i64 x28),(1000000,undef)] ∧ St no w0 w []) ?_ ?_
 · refine rg (v_ z (mv v0_ z) (v_ z (r_lenR e_ul_154 (H.rd h0) z) (v_ z (mv (.int .i64 0) z) (nl (wc_block ?_)))))
   refine wc_loop (fun kk t w=>∃ (x39 : Int) (x40 : Int) (t50 : Fr),kk ≤ k ∧ slices_Concat.l0 kk a0 x39 x40 = some r ∧ t = upds t50 [(0,v0_),(2,.slice none 0 0),(3,.int .i64 x39),(9,v0_),(10,.int .i64 (a0.length : Int)),(11,.int .i64 x40),(1000000,undef)] ∧ St no w0 w []) k ?_ ?_
   · exact ⟨_,_,_,Nat.le_refl _,E,upds_eq ⟨z,z,z,z,z,z,z,trivial⟩,H⟩
   rintro kk t w ⟨x39,x40,t50,hk49,E,rfl,H⟩
   obtain ⟨k48,rfl⟩ | rfl : (∃ k',kk = k' + 1) ∨ kk = 0:=by cases kk; exact .inr rfl; exact .inl ⟨_,rfl⟩
   rotate_left
   · cases E
   rw [slices_Concat.l0] at E
   refine rg (v_ z (r_lss z z) (nl (wc_seq ?_)))
   refine wc_cond z (fun c52=>?_) (fun c52=>?_)
   · have E:=iT c52 E
     refine wc_skip (n_thn (wc_seq (wc_block (rg ?_))))
     obtain ⟨⟨g53,g54⟩,E⟩:=grd_some E
     refine v_ z (r_idx e_sl_154 (H.rd h0) z z g53 g54) (e_ z (y_ldS0 e_sc_22 H h0 g53 g54 z (fun v55 h56=>(v_ z (sg v55 z) (nl (rg (v_ z (mv (.int .i64 x39) z) (v_ z (mv v55 z) (v_ z (r_lenR e_ul_22 (H.rd h56) z) (v_ z (r_add z z) (v_ z (sg (.int .i64 (i64.wrap (x39 + ((at_ [] a0 x40).length : Int)))) z) (nl (rg (v_ z (mv (.int .i64 (i64.wrap (x39 + ((at_ [] a0 x40).length : Int)))) z) (v_ z (r_lss z z) (nl ?_))))))))))))))))
     refine wc_cond z (fun c57=>?_) (fun c57=>?_)
     · have E:=iT c57 E
       refine wc_region ?_
       cases E
     · have E:=iF c57 E
       refine wc_skip (n_bk (n_thn (wc_region (v_ z (r_add z z) (v_ z (mv (.int .i64 (i64.wrap (x40 + 1))) z) (wl_nil ?_))))))
       exact ⟨k48,Nat.lt_succ_self _,_,_,_,Nat.le_of_succ_le hk49,E,upds_eq ⟨z,z,z,z,z,z,z,trivial⟩,H⟩
   · have E:=iF c52 E
     refine wc_exit (x_thn (x_thn (x_bk ?_)))
     exact ⟨k48,_,_,by omega,E,upds_eq ⟨z,z,z,z,trivial⟩,H⟩
 rintro t w ⟨k30,x28,t29,hk31,E,rfl,H⟩
 unfold slices_Concat.j0 at E
 refine rg (v_ z (mv (.int .i64 x28) z) ?_)
 refine e_ z (y_J (fun v w=>∃ (k73 : Nat) (l72 : List (Int)) (v71 : Value),k73 ≤ k30 ∧ slices_Concat.j1 (slices_Concat.l1 k73) k73 a0 l72 = some r ∧ v = v71 ∧ St no w0 w [.own (.int .u8) 5 v71 l72]) ?_ ?_)
 · refine (y_in 27 [.slice none 0 0,.int .i64 x28] e_en_340 Tryz.func340 z z z z (rg (v_ z (sg (.slice none 0 0) z) (nl (wc_seq (rg (v_ z (mv (.int .i64 x28) z) (v_ z (r_lss z z) (nl ?_)))))))))
   refine wc_cond z (fun c76=>?_) (fun c76=>?_)
   · have E:=iT c76 E
     refine wc_region ?_
     cases E
   · have E:=iF c76 E
     refine wc_skip (n_thn (wc_seq (rg (v_ z (mv (.int .i64 x28) z) (v_ z (mv (.slice none 0 0) z) (v_ z (rv_eq (r_cap e_ul_22 z) (v':=.int .i64 0) z) (v_ z (mv (.slice none 0 0) z) (v_ z (rv_eq (r_len e_ul_22 z) (v':=.int .i64 0) z) (v_ z (rv_eq (v':=.int .i64 0) (r_sub z z) z) (v_ z (r_sub z z) (v_ z (sg (.int .i64 (i64.wrap (x28 - 0))) z) (nl (rg (v_ z (mv (.int .i64 (i64.wrap (x28 - 0))) z) (v_ z (r_gtr z z) (nl ?_))))))))))))))))
     refine wc_cond z (fun c77=>?_) (fun c77=>?_)
     · have E:=iT c77 E
       refine wc_region (v_ z (mv (.slice none 0 0) z) (v_ z (mv (.slice none 0 0) z) (v_ z (rv_eq (r_cap e_ul_22 z) (v':=.int .i64 0) z) (v_ z (rv_eq (r_slcH e_sl_22 z z (by decide) (by decide)) (v':=.slice none 0 0) z) (v_ z (mv (.int .i64 (i64.wrap (x28 - 0))) z) ?_)))))
       obtain ⟨⟨g79,g80⟩,E⟩:=grd_some E
       refine e_ z (y_appZ (e:=(.int .u8)) (z0:=0) e_sl_22 Tryz.underlying3 z H z z g79 (by omega) (fun v78 w H=>(v_ z (mv (.slice none 0 0) z) (v_ z (rv_eq (r_len e_ul_22 z) (v':=.int .i64 0) z) ?_))))
       obtain ⟨⟨g81,g82⟩,E⟩:=grd_some E
       have p84 : 0 ≤ (0 : Int).toNat:=by omega
       have p85 : (0 : Int).toNat ≤ (List.replicate (i64.wrap (x28 - 0)).toNat (0 : Int)).length:=by omega
       refine v_ z (r_slcHR e_sl_22 (own_rd (H.get 0 z)) z z g81 g82) (v_ z (sg ((slv v78 0 ((0 : Int).toNat) 1)) z) (nl (rg (v_ z (mv ((slv v78 0 ((0 : Int).toNat) 1)) z) (v_ z (sg ((slv v78 0 ((0 : Int).toNat) 1)) z) (nl (wc_ret ?_)))))))
       have H:=H.trunc 0 z p85
       exact ⟨.inl z,(slv v78 0 ((0 : Int).toNat) 1),tk0 z ⟨resM z (rv_t rv_nil) z,k30,_,_,Nat.le_refl _,E,z,H⟩⟩
     · have E:=iF c77 E
       refine wc_skip (n_thn (rg (v_ z (mv (.slice none 0 0) z) (v_ z (sg (.slice none 0 0) z) (nl (wc_ret ?_))))))
       have H:=H.nilOwn (.int .u8) 5
       exact ⟨.inl z,.slice none 0 0,tk0 z ⟨resM z (rv_t rv_nil) z,k30,_,_,Nat.le_refl _,E,z,H⟩⟩
 rintro _ w ⟨k73,l72,v71,hk74,E,hv_,H⟩
 have hv_:=hv_.symm
 subst hv_
 unfold slices_Concat.j1 at E
 refine v_ z (sg v71 z) (nl (wc_seq (rg (v_ z (mv v0_ z) (v_ z (r_lenR e_ul_154 (H.rd h0) z) (v_ z (mv (.int .i64 0) z) (nl (wc_block ?_))))))))
 refine wc_loop (fun kk t w=>∃ (l94 : List (Int)) (x95 : Int) (v93 : Value) (t105 : Fr),kk ≤ k73 ∧ slices_Concat.l1 kk a0 l94 x95 = some r ∧ t = upds t105 [(2,.slice none 0 0),(6,v93),(25,v0_),(26,.int .i64 (a0.length : Int)),(27,.int .i64 x95),(1000000,undef)] ∧ St no w0 w [.own (.int .u8) 5 v93 l94]) k73 ?_ ?_
 · exact ⟨_,_,_,_,Nat.le_refl _,E,upds_eq ⟨z,z,z,z,z,z,trivial⟩,H⟩
 rintro kk t w ⟨l94,x95,v93,t105,hk104,E,rfl,H⟩
 obtain ⟨k103,rfl⟩ | rfl : (∃ k',kk = k' + 1) ∨ kk = 0:=by cases kk; exact .inr rfl; exact .inl ⟨_,rfl⟩
 rotate_left
 · cases E
 rw [slices_Concat.l1] at E
 refine rg (v_ z (r_lss z z) (nl (wc_seq ?_)))
 refine wc_cond z (fun c106=>?_) (fun c106=>?_)
 · have E:=iT c106 E
   refine wc_skip (n_thn (wc_seq (wc_block (rg ?_))))
   obtain ⟨⟨g107,g108⟩,E⟩:=grd_some E
   refine v_ z (r_idx e_sl_154 (H.rd h0) z z g107 g108) (e_ z (y_ldS0 e_sc_22 H h0 g107 g108 z (fun v109 h110=>(v_ z (sg v109 z) (nl (wc_region (v_ z (mv v93 z) (v_ z (mv v109 z) ?_))))))))
   obtain ⟨g112,E⟩:=grd_some E
   refine e_ z (y_app e_sl_22 H 0 z (H.rd h110) z z (by omega) (by unfold maxLen; omega) (fun v111 w H=>(v_ z (sg v111 z) (wl_nil (n_bk (n_thn (wc_region (v_ z (r_add z z) (v_ z (mv (.int .i64 (i64.wrap (x95 + 1))) z) (wl_nil ?_))))))))))
   exact ⟨k103,Nat.lt_succ_self _,_,_,_,_,Nat.le_of_succ_le hk104,E,upds_eq ⟨z,z,z,z,z,z,trivial⟩,H⟩
 · have E:=iF c106 E
   refine wc_exit (x_thn (x_thn (x_bk (n_thn (rg (v_ z (mv v93 z) (v_ z (sg v93 z) (nl (wc_ret ?_)))))))))
   cases E
   exact ⟨.inl z,_,tk0 z ⟨resN z (rv_t rv_nil),_,z,H.sub1 0 z⟩⟩
def welch_row.f (k : Nat) (a0 : List (List Int)) : Option (List Int):=(slices_Concat.f k a0).bind fun x1=>some x1
theorem welch_row.calls {w0 : World} {k : Nat} {a0 : List (List Int)} {v0_ : Value} {r : List Int} (h0 : Rd (.sl (.of (.int .u8))) w0 (Ol no w0) v0_ a0) (E : welch_row.f k a0 = some r) :
   Calls Tryz.prog 286 #[v0_] w0 fun e w'=>∃ (u0 : Value),e = .returned (u0) ∧ St no w0 w' [.own (.int .u8) 5 u0 r]:=by
 have H:=St.nil no w0
 unfold welch_row.f at E
 refine calls_of_wc (N:=5) (args:=[v0_]) Tryz.func286 z z (by simp) ?_
 refine rg (v_ z (sg (.slice none 0 0) z) (nl (rg (v_ z (mv v0_ z) ?_))))
 obtain ⟨x1,E2,E⟩:=bind_some E
 refine e_ z (y_callL e_en_317 z ((slices_Concat.calls (H.arg (H.rd h0)) E2).mono ?_))
 rintro _ w ⟨v3,rfl,K⟩
 have H:=H.app K
 refine ⟨_,z,(v_ z (sg v3 z) (nl (wc_ret ?_)))⟩
 cases E
 exact ⟨.inl z,_,tk0 z ⟨resN z (rv_t rv_nil),_,z,H.sub1 0 z⟩⟩
def matrix_Of.j0 (l0r : List (List Int) → Int → List (Int) → Int → Option ((Int × Int × List Int) × Bool)) (k : Nat) (a0 : List (List Int)) (x9 : Int) : Option ((Int × Int × List Int) × Bool):=bif decide (300 < (a0.length : Int)) then (some ((0,0,([] : List (Int))),false)) else (bif decide (300 < x9) then (some ((0,0,([] : List (Int))),false)) else (l0r a0 x9 ([] : List (Int)) 0))
def matrix_Of.l0 : Nat → List (List Int) → Int → List (Int) → Int → Option ((Int × Int × List Int) × Bool)
 | 0,_,_,_,_=>none
 | k + 1,a0,x9,l47,x48=>bif decide (x48 < (a0.length : Int)) then (grd (decide ((0 : Int) ≤ x48 ∧ x48 < (a0.length : Int))) (bif !decide (((at_ [] a0 x48).length : Int) = x9) then (some ((0,0,([] : List (Int))),false)) else (grd (decide ((l47.length + (at_ [] a0 x48).length) * 1 ≤ 140737488355328)) (matrix_Of.l0 k a0 x9 (l47 ++ (at_ [] a0 x48)) (i64.wrap (x48 + 1)))))) else (some (((a0.length : Int),x9,l47),true))
def matrix_Of.f (k : Nat) (a0 : List (List Int)) : Option ((Int × Int × List Int) × Bool):=bif decide (0 < (a0.length : Int)) then (grd (decide ((0 : Int) ≤ 0 ∧ 0 < (a0.length : Int))) (matrix_Of.j0 (matrix_Of.l0 k) k a0 ((at_ [] a0 0).length : Int))) else (matrix_Of.j0 (matrix_Of.l0 k) k a0 0)
theorem matrix_Of.calls {w0 : World} {k : Nat} {a0 : List (List Int)} {v0_ : Value} {r : (Int × Int × List Int) × Bool} (h0 : Rd (.sl (.of (.int .u8))) w0 (Ol no w0) v0_ a0) (E : matrix_Of.f k a0 = some r) :
   Calls Tryz.prog 287 #[v0_] w0 fun e w'=>∃ (u0_2 : Value),e = .returned (.tuple #[.agg #[.int .i64 r.1.1,.int .i64 r.1.2.1,u0_2],.bool r.2]) ∧ St no w0 w' [.own (.int .u8) 5 u0_2 r.1.2.2]:=by
 have H:=St.nil no w0
 unfold matrix_Of.f at E
 refine calls_of_wc (N:=46) (args:=[v0_]) Tryz.func287 z z (by simp) ?_
 refine rg (e_ z (y_allocS e_zr_374 H (fun b1 w H=>(v_ z (sg (.bool false) z) (nl (rg (v_ z (mv v0_ z) (v_ z (r_lenR e_ul_154 (H.rd h0) z) (v_ z (r_build (cs:=[.int .i64 (a0.length : Int),.int .i64 0,.slice none 0 0]) e_bd_374 z) (e_ z (y_allocS e_zr_374 H (fun b2 w H=>(s_ (y_storeBA e_sz_374 H 1 z z z z z z (fun w H=>(nl ?_))))))))))))))))
 refine wc_seqJ (fun t w=>∃ (k11 : Nat) (x9 : Int) (t10 : Fr),k11 ≤ k ∧ matrix_Of.j0 (matrix_Of.l0 k11) k11 a0 x9 = some r ∧ t = upds t10 [(0,v0_),(2,pt b1),(3,.bool false),(4,pt b2),(1000000,undef)] ∧ St no w0 w [.blk b1 #[.int .i64 0,.int .i64 0,.slice none 0 0] 374,.blk b2 #[.int .i64 (a0.length : Int),.int .i64 x9,.slice none 0 0] 374]) ?_ ?_
 · refine rg (v_ z (r_faddr e_fa_374_0 z) (v_ z (r_load e_sc_3 z (blk_cell (H.get 1 z) z)) (v_ z (r_gtr z z) (nl ?_))))
   refine wc_cond z (fun c13=>?_) (fun c13=>?_)
   · have E:=iT c13 E
     refine wc_region (v_ z (mv v0_ z) ?_)
     obtain ⟨⟨g14,g15⟩,E⟩:=grd_some E
     refine v_ z (r_idx e_sl_154 (H.rd h0) z z g14 g15) (e_ z (y_ldS0 e_sc_22 H h0 g14 g15 z (fun v16 h17=>(v_ z (r_lenR e_ul_22 (H.rd h17) z) (v_ z (r_faddr e_fa_374_1 z) (s_ (y_storeB e_sz_3 H 1 z z z z z (fun w H=>(wl_nil ?_)))))))))
     exact ⟨k,_,_,Nat.le_refl _,E,upds_eq ⟨z,z,z,z,z,trivial⟩,H⟩
   · have E:=iF c13 E
     refine wc_skip ?_
     exact ⟨k,_,_,Nat.le_refl _,E,upds_eq ⟨z,z,z,z,z,trivial⟩,H⟩
 rintro t w ⟨k11,x9,t10,hk12,E,rfl,H⟩
 unfold matrix_Of.j0 at E
 refine wc_seq (rg (v_ z (r_faddr e_fa_374_0 z) (v_ z (r_load e_sc_3 z (blk_cell (H.get 1 z) z)) (v_ z (r_gtr z z) (v_ z (mv (.bool (decide (300 < (a0.length : Int)))) z) ?_)))))
 rcases Bool.eq_false_or_eq_true (decide (300 < (a0.length : Int))) with c20 | c20
 · have E:=iT c20 E
   refine off_ c20 z z z (off_ c20 z z z (off_ c20 z z z (v_ z (pT (.bool true) z z c20) (nl (wc_condT z (rg (v_ z (r_build (cs:=[.int .i64 0,.int .i64 0,.slice none 0 0]) e_bd_374 z) (s_ (y_storeBA e_sz_374 H 0 z z z z z z (fun w H=>(v_ z (sg (.bool false) z) (nl (wc_ret ?_)))))))))))))
   have H:=H.nilOwn (.int .u8) 5
   cases E
   exact (r_thn ⟨.inl z,_,tk0 z ⟨resN z (rv_c z e_ag_374 (blk_range (n:=3) (H.get 0 z) z) z (rv_t rv_nil)),_,z,H.sub1 2 z⟩⟩)
 · have E:=iF c20 E
   refine on_ c20 z z (r_faddr e_fa_374_1 z) (on_ c20 z z (r_load e_sc_3 z (blk_cell (H.get 1 z) z)) (on_ c20 z z (r_gtr z z) (v_ z (pF (.bool (decide (300 < x9))) z z c20) (nl ?_))))
   refine wc_cond z (fun c21=>?_) (fun c21=>?_)
   · have E:=iT c21 E
     refine rg (v_ z (r_build (cs:=[.int .i64 0,.int .i64 0,.slice none 0 0]) e_bd_374 z) (s_ (y_storeBA e_sz_374 H 0 z z z z z z (fun w H=>(v_ z (sg (.bool false) z) (nl (wc_ret ?_)))))))
     have H:=H.nilOwn (.int .u8) 5
     cases E
     exact (r_thn ⟨.inl z,_,tk0 z ⟨resN z (rv_c z e_ag_374 (blk_range (n:=3) (H.get 0 z) z) z (rv_t rv_nil)),_,z,H.sub1 2 z⟩⟩)
   · have E:=iF c21 E
     refine wc_skip (n_thn (wc_seq (rg (v_ z (mv v0_ z) (v_ z (r_lenR e_ul_154 (H.rd h0) z) (v_ z (mv (.int .i64 0) z) (nl (wc_block ?_))))))))
     have H:=H.nilOwn (.int .u8) 5
     refine wc_loop (fun kk t w=>∃ (l47 : List (Int)) (x48 : Int) (v46 : Value) (t63 : Fr),kk ≤ k11 ∧ matrix_Of.l0 kk a0 x9 l47 x48 = some r ∧ t = upds t63 [(2,pt b1),(3,.bool false),(4,pt b2),(27,v0_),(28,.int .i64 (a0.length : Int)),(29,.int .i64 x48),(1000000,undef)] ∧ St no w0 w [.blk b1 #[.int .i64 0,.int .i64 0,.slice none 0 0] 374,.blk b2 #[.int .i64 (a0.length : Int),.int .i64 x9,v46] 374,.own (.int .u8) 5 v46 l47]) k11 ?_ ?_
     · exact ⟨_,_,_,_,Nat.le_refl _,E,upds_eq ⟨z,z,z,z,z,z,z,trivial⟩,H⟩
     rintro kk t w ⟨l47,x48,v46,t63,hk62,E,rfl,H⟩
     obtain ⟨k61,rfl⟩ | rfl : (∃ k',kk = k' + 1) ∨ kk = 0:=by cases kk; exact .inr rfl; exact .inl ⟨_,rfl⟩
     rotate_left
     · cases E
     rw [matrix_Of.l0] at E
     refine rg (v_ z (r_lss z z) (nl (wc_seq ?_)))
     refine wc_cond z (fun c65=>?_) (fun c65=>?_)
     · have E:=iT c65 E
       refine wc_skip (n_thn (wc_seq (wc_block (rg ?_))))
       obtain ⟨⟨g66,g67⟩,E⟩:=grd_some E
       refine v_ z (r_idx e_sl_154 (H.rd h0) z z g66 g67) (e_ z (y_ldS0 e_sc_22 H h0 g66 g67 z (fun v68 h69=>(v_ z (sg v68 z) (nl (wc_seq (rg (v_ z (mv v68 z) (v_ z (r_lenR e_ul_22 (H.rd h69) z) (v_ z (r_faddr e_fa_374_1 z) (v_ z (r_load e_sc_3 z (blk_cell (H.get 1 z) z)) (v_ z (r_neq z z) (nl ?_)))))))))))))
       refine wc_cond z (fun c70=>?_) (fun c70=>?_)
       · have E:=iT c70 E
         refine rg (v_ z (r_build (cs:=[.int .i64 0,.int .i64 0,.slice none 0 0]) e_bd_374 z) (s_ (y_storeBA e_sz_374 H 0 z z z z z z (fun w H=>(v_ z (sg (.bool false) z) (nl (wc_ret ?_)))))))
         have H:=H.nilOwn (.int .u8) 5
         cases E
         exact (r_thn (r_bk (r_thn (r_thn (r_bk (r_thn ⟨.inl z,_,tk0 z ⟨resN z (rv_c z e_ag_374 (blk_range (n:=3) (H.get 0 z) z) z (rv_t rv_nil)),_,z,H.sub1 3 z⟩⟩))))))
       · have E:=iF c70 E
         refine wc_skip (n_thn (wc_region (v_ z (r_faddr e_fa_374_2 z) (v_ z (r_load e_sc_22 z (blk_cell (H.get 1 z) z)) (v_ z (mv v68 z) ?_)))))
         obtain ⟨g72,E⟩:=grd_some E
         refine e_ z (y_app e_sl_22 H 2 z (H.rd h69) z z (by omega) (by unfold maxLen; omega) (fun v71 w H=>(v_ z (r_faddr e_fa_374_2 z) ?_)))
         obtain ⟨p73,n74,c75,rfl⟩:=own_form (H.get 2 z)
         refine s_ (y_storeB e_sz_22 H 1 z z z z z (fun w H=>(wl_nil (n_bk (n_thn (wc_region (v_ z (r_add z z) (v_ z (mv (.int .i64 (i64.wrap (x48 + 1))) z) (wl_nil ?_)))))))))
         exact ⟨k61,Nat.lt_succ_self _,_,_,_,_,Nat.le_of_succ_le hk62,E,upds_eq ⟨z,z,z,z,z,z,z,trivial⟩,H⟩
     · have E:=iF c65 E
       refine wc_exit (x_thn (x_thn (x_bk (n_thn (rg (v_ z (r_loadB (l:=[.int .i64 (a0.length : Int),.int .i64 x9,v46]) e_ag_374 (H.get 1 z) z z z) ?_))))))
       obtain ⟨p76,n77,c78,rfl⟩:=own_form (H.get 2 z)
       refine s_ (y_storeBA e_sz_374 H 0 z z z z z z (fun w H=>(v_ z (sg (.bool true) z) (nl (wc_ret ?_)))))
       cases E
       exact ⟨.inl z,_,tk0 z ⟨resN z (rv_c z e_ag_374 (blk_range (n:=3) (H.get 0 z) z) z (rv_t rv_nil)),_,z,H.sub1 2 z⟩⟩
def matrix_Right_1.f (a0 : Int) : Option (Bool):=bif decide (0 ≤ a0) then (some (decide (a0 ≤ 300))) else (some false)
theorem matrix_Right_1.calls {w0 : World} {a0 : Int} {r : Bool}  (E : matrix_Right_1.f a0 = some r) :
   Calls Tryz.prog 348 #[.int .i64 a0] w0 fun e w'=>e = .returned (.bool r) ∧ St no w0 w' []:=by
 have H:=St.nil no w0
 unfold matrix_Right_1.f at E
 refine calls_of_wc (N:=9) (args:=[.int .i64 a0]) Tryz.func348 z z (by simp) ?_
 refine rg (v_ z (sg (.bool false) z) (nl (rg (v_ z (mv (.int .i64 a0) z) (v_ z (r_geq z z) (v_ z (mv (.bool (decide (0 ≤ a0))) z) ?_))))))
 rcases Bool.eq_false_or_eq_true (decide (0 ≤ a0)) with c1 | c1
 · have E:=iT c1 E
   refine on_ c1 z z (mv (.int .i64 a0) z) (on_ c1 z z (r_leq z z) (v_ z (pT (.bool (decide (a0 ≤ 300))) z z c1) (v_ z (sg (.bool (decide (a0 ≤ 300))) z) (nl (wc_ret ?_)))))
   cases E
   exact ⟨.inl z,_,tk0 z ⟨resN z (rv_t rv_nil),z,H.sub0⟩⟩
 · have E:=iF c1 E
   refine off_ c1 z z z (off_ c1 z z z (v_ z (pF (.bool false) z z c1) (v_ z (sg (.bool false) z) (nl (wc_ret ?_)))))
   cases E
   exact ⟨.inl z,_,tk0 z ⟨resN z (rv_t rv_nil),z,H.sub0⟩⟩
def matrix_Right.f (a0 : Int × Int × List Int) : Option (Bool):=(matrix_Right_1.f a0.1).bind fun x2=>bif x2 then ((matrix_Right_1.f a0.2.1).bind fun x5=>bif x5 then (some (decide ((a0.2.2.length : Int) = i64.wrap (a0.1 * a0.2.1)))) else (some false)) else (some false)
theorem matrix_Right.calls {w0 : World} {a0 : Int × Int × List Int} {v0_2_ : Value} {r : Bool} (h0_2 : Rd (.of (.int .u8)) w0 (Ol no w0) v0_2_ a0.2.2) (E : matrix_Right.f a0 = some r) :
   Calls Tryz.prog 341 #[.agg #[.int .i64 a0.1,.int .i64 a0.2.1,v0_2_]] w0 fun e w'=>e = .returned (.bool r) ∧ St no w0 w' []:=by
 have H:=St.nil no w0
 unfold matrix_Right.f at E
 refine calls_of_wc (N:=25) (args:=[.agg #[.int .i64 a0.1,.int .i64 a0.2.1,v0_2_]]) Tryz.func341 z z (by simp) ?_
 refine rg (e_ z (y_boxS (cs:=#[.int .i64 a0.1,.int .i64 a0.2.1,v0_2_]) H z (fun b1 w H=>(v_ z (sg (.bool false) z) (nl (rg (v_ z (sg (.func (.func 348) #[] #[]) z) (nl (rg (v_ z (mv (.func (.func 348) #[] #[]) z) (v_ z (r_faddr e_fa_374_0 z) (v_ z (r_load e_sc_3 z (blk_cell (H.get 0 z) z)) ?_))))))))))))
 obtain ⟨x2,E3,E⟩:=bind_some E
 refine e_ z (y_callvL z e_en_348 z ((matrix_Right_1.calls E3).mono ?_))
 rintro _ w ⟨rfl,K⟩
 have H:=H.app K
 refine ⟨_,z,(v_ z (mv (.bool x2) z) ?_)⟩
 rcases Bool.eq_false_or_eq_true (x2) with c4 | c4
 · have E:=iT c4 E
   refine on_ c4 z z (mv (.func (.func 348) #[] #[]) z) (on_ c4 z z (r_faddr e_fa_374_1 z) (on_ c4 z z (r_load e_sc_3 z (blk_cell (H.get 0 z) z)) ?_))
   obtain ⟨x5,E6,E⟩:=bind_some E
   refine wl_on z c4 z (y_callvL z e_en_348 z ((matrix_Right_1.calls E6).mono ?_))
   rintro _ w ⟨rfl,K⟩
   have H:=H.app K
   refine ⟨_,z,(v_ z (pT (.bool x5) z z c4) (v_ z (mv (.bool x5) z) ?_))⟩
   rcases Bool.eq_false_or_eq_true (x5) with c7 | c7
   · have E:=iT c7 E
     refine on_ c7 z z (r_faddr e_fa_374_2 z) (on_ c7 z z (r_load e_sc_22 z (blk_cell (H.get 0 z) z)) (on_ c7 z z (r_lenR e_ul_22 (H.rd h0_2) z) (on_ c7 z z (r_faddr e_fa_374_0 z) (on_ c7 z z (r_load e_sc_3 z (blk_cell (H.get 0 z) z)) (on_ c7 z z (r_faddr e_fa_374_1 z) (on_ c7 z z (r_load e_sc_3 z (blk_cell (H.get 0 z) z)) (on_ c7 z z (r_mul z z) (on_ c7 z z (r_eql z z) (v_ z (pT (.bool (decide ((a0.2.2.length : Int) = i64.wrap (a0.1 * a0.2.1)))) z z c7) (v_ z (sg (.bool (decide ((a0.2.2.length : Int) = i64.wrap (a0.1 * a0.2.1)))) z) (nl (wc_ret ?_))))))))))))
     cases E
     exact ⟨.inl z,_,tk0 z ⟨resN z (rv_t rv_nil),z,H.sub0⟩⟩
   · have E:=iF c7 E
     refine off_ c7 z z z (off_ c7 z z z (off_ c7 z z z (off_ c7 z z z (off_ c7 z z z (off_ c7 z z z (off_ c7 z z z (off_ c7 z z z (off_ c7 z z z (v_ z (pF (.bool false) z z c7) (v_ z (sg (.bool false) z) (nl (wc_ret ?_))))))))))))
     cases E
     exact ⟨.inl z,_,tk0 z ⟨resN z (rv_t rv_nil),z,H.sub0⟩⟩
 · have E:=iF c4 E
   refine off_ c4 z z z (off_ c4 z z z (off_ c4 z z z (off_ c4 z z z (v_ z (pF (.bool false) z z c4) (v_ z (mv (.bool false) z) (off_ z z z z (off_ z z z z (off_ z z z z (off_ z z z z (off_ z z z z (off_ z z z z (off_ z z z z (off_ z z z z (off_ z z z z (v_ z (pF (.bool false) z z z) (v_ z (sg (.bool false) z) (nl (wc_ret ?_))))))))))))))))))
   cases E
   exact ⟨.inl z,_,tk0 z ⟨resN z (rv_t rv_nil),z,H.sub0⟩⟩
end Go.Proofs.YtkndgkbgbmhjoaaGreatDoor.Gw
