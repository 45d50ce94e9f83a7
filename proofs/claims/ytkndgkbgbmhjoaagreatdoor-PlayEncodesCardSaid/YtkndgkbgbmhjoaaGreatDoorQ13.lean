/- The card of the law that what a desk encodes is read back from what it tells: a part of its proof. The conditions are those of the statement. -/
import Derived.Test.YtkndgkbgbmhjoaaGreatDoorQ4
import Derived.Test.YtkndgkbgbmhjoaaGreatDoorQ3
import Derived.Test.YtkndgkbgbmhjoaaGreatDoorQ12
import Derived.Test.YtkndgkbgbmhjoaaGreatDoorQ11
namespace Go.Proofs.YtkndgkbgbmhjoaaGreatDoor.Gw
open Go Go.RowKit
set_option linter.unusedVariables false
set_option linter.unusedSimpArgs false
set_option linter.unusedSectionVars false
variable [LibO]
set_option linter.unnecessarySimpa false
set_option maxRecDepth 100000
set_option maxHeartbeats 4000000
open Go.IntKind (i8 i16 i32 i64 u8 u16 u32 u64)
def value_All.l0 : Nat → List Int → List Int → List (Int) → Int → Option (List Int)
 | 0,_,_,_,_=>none
 | k + 1,a1,a2,l20,x21=>bif decide (x21 < (a2.length : Int)) then (grd (decide ((0 : Int) ≤ x21 ∧ x21 < (a2.length : Int))) ((value_At.f k a1 (at_ 0 a2 x21)).bind fun x41=>grd (decide ((0 : Int) ≤ x21 ∧ x21 < (l20.length : Int))) (value_All.l0 k a1 a2 (l20.set x21.toNat x41) (i64.wrap (x21 + 1))))) else (some l20)
def value_All.f (k : Nat) (a1 : List Int) (a2 : List Int) : Option (List Int):=grd (decide ((0 : Int) ≤ (a2.length : Int) ∧ (a2.length : Int) ≤ (a2.length : Int) ∧ (a2.length : Int) ≤ 140737488355328)) (value_All.l0 k a1 a2 (List.replicate (a2.length : Int).toNat (0 : Int)) 0)
theorem value_All.calls {w0 : World} {k : Nat} {f0_ : FD} {a1 : List Int} {a2 : List Int} {v1_ : Value} {v2_ : Value} {r : List Int} (hf : (Rs.fld f0_).inv w0) (h1 : Rd (.of (.int .u8)) w0 (Ol (Rs.fld f0_).fp w0) v1_ a1) (h2 : Rd (.of (.int .u8)) w0 (Ol (Rs.fld f0_).fp w0) v2_ a2) (E : value_All.f k a1 a2 = some r) :
   Calls Tryz.prog 78 #[pt f0_.p,v1_,v2_] w0 fun e w'=>∃ (u0 : Value),e = .returned (u0) ∧ St (Rs.fld f0_).fp w0 w' [.fld f0_,.own (.int .u8) 5 u0 r]:=by
 have H:=St.start hf
 unfold value_All.f at E
 refine calls_of_wc (N:=32) (args:=[pt f0_.p,v1_,v2_]) Tryz.func78 z z (by simp) ?_
 refine rg (e_ z (y_boxS (cs:=#[pt f0_.p]) H z (fun b1 w H=>?_)))
 obtain ⟨p2,n3,c4,rfl⟩:=rd_form h1
 refine e_ z (y_boxS (cs:=#[(.slice p2 n3 c4)]) H z (fun b5 w H=>(v_ z (sg (.slice none 0 0) z) (nl (wc_seq (rg (v_ z (r_load e_sc_79 z (blk_cell (H.get 1 z) z)) (v_ z (r_peql0 Tryz.underlying79 z z) (nl (wc_condF z (wc_skip (n_thn (rg (v_ z (r_mkf [pt b1,pt b5] z) (v_ z (sg (.func (.func 137) #[] #[pt b1,pt b5]) z) (nl (rg (v_ z (mv v2_ z) (v_ z (r_lenR e_ul_22 (H.rd h2) z) ?_)))))))))))))))))))
 obtain ⟨⟨g7,g8,g9⟩,E⟩:=grd_some E
 refine e_ z (y_make (e:=(.int .u8)) (z0:=0) e_sl_22 z H z z g7 g8 (by omega) (by omega) (fun v6 w H=>(v_ z (sg v6 z) (nl (wc_seq (rg (v_ z (mv v2_ z) (v_ z (r_lenR e_ul_22 (H.rd h2) z) (v_ z (mv (.int .i64 0) z) (nl (wc_block ?_)))))))))))
 refine wc_loop (fun kk t w=>∃ (l20 : List (Int)) (x21 : Int) (t34 : Fr),kk ≤ k ∧ value_All.l0 kk a1 a2 l20 x21 = some r ∧ t = upds t34 [(6,.slice none 0 0),(7,.func (.func 137) #[] #[pt b1,pt b5]),(8,v6),(17,v2_),(18,.int .i64 (a2.length : Int)),(19,.int .i64 x21),(1000000,undef)] ∧ St (Rs.fld f0_).fp w0 w [.fld f0_,.blk b1 #[pt f0_.p] 79,.blk b5 #[(.slice p2 n3 c4)] 22,.own (.int .u8) 5 v6 l20]) k ?_ ?_
 · exact ⟨_,_,_,Nat.le_refl _,E,upds_eq ⟨z,z,z,z,z,z,z,trivial⟩,H⟩
 rintro kk t w ⟨l20,x21,t34,hk33,E,rfl,H⟩
 obtain ⟨k32,rfl⟩ | rfl : (∃ k',kk = k' + 1) ∨ kk = 0:=by cases kk; exact .inr rfl; exact .inl ⟨_,rfl⟩
 rotate_left
 · cases E
 rw [value_All.l0] at E
 refine rg (v_ z (r_lss z z) (nl (wc_seq ?_)))
 refine wc_cond z (fun c36=>?_) (fun c36=>?_)
 · have E:=iT c36 E
   refine wc_skip (n_thn (wc_seq (wc_block (rg (v_ z (mv (.int .i64 x21) z) ?_)))))
   obtain ⟨⟨g37,g38⟩,E⟩:=grd_some E
   refine v_ z (r_idx e_sl_22 (H.rd h2) z z g37 g38) (v_ z (r_ldI e_sc_5 (H.rd h2) g37 g38 z) (v_ z (sg (.int .i64 x21) z) (v_ z (sg (.int .u8 (at_ 0 a2 x21)) z) (nl (wc_region (v_ z (mv v6 z) (v_ z (mv (.int .i64 x21) z) (v_ z (mv (.func (.func 137) #[] #[pt b1,pt b5]) z) (v_ z (mv (.int .u8 (at_ 0 a2 x21)) z) (e_ z (y_inv 9 [.int .u8 (at_ 0 a2 x21),pt b1,pt b5] z e_en_137 Tryz.func137 z z z z (rg (v_ z (sg (.int .u8 0) z) (nl (rg (v_ z (r_load e_sc_79 z (blk_cell (H.get 1 z) z)) (v_ z (r_load e_sc_22 z (blk_cell (H.get 2 z) z)) (v_ z (mv (.int .u8 (at_ 0 a2 x21)) z) ?_))))))))))))))))))
   obtain ⟨x41,E42,E⟩:=bind_some E
   refine e_ z (y_callL e_en_138 z ((value_At.calls (H.get 0 z) (H.argX 0 z (H.rd h1)) E42).mono ?_))
   rintro _ w ⟨rfl,K⟩
   have H:=H.appX 0 z K
   refine ⟨_,z,(v_ z (sg (.int .u8 x41) z) (nl (wc_ret (⟨.inl z,.int .u8 x41,tk0 z ⟨resM z (rv_t rv_nil) z,?_⟩⟩))))⟩
   obtain ⟨⟨g43,g44⟩,E⟩:=grd_some E
   refine v_ z (r_idx e_sl_22 (own_rd (H.get 3 z)) z z g43 g44) (s_ (y_storeI e_sz_5 H 3 z g43 g44 z z (fun w H=>(wl_nil (n_bk (n_thn (wc_region (v_ z (r_add z z) (v_ z (mv (.int .i64 (i64.wrap (x21 + 1))) z) (wl_nil ?_))))))))))
   exact ⟨k32,Nat.lt_succ_self _,_,_,_,Nat.le_of_succ_le hk33,E,upds_eq ⟨z,z,z,z,z,z,z,trivial⟩,H⟩
 · have E:=iF c36 E
   refine wc_exit (x_thn (x_thn (x_bk (n_thn (rg (v_ z (mv v6 z) (v_ z (sg v6 z) (nl (wc_ret ?_)))))))))
   cases E
   exact ⟨.inl z,_,tk0 z ⟨resN z (rv_t rv_nil),_,z,H.sub2 0 3 z z z⟩⟩
def synd_Syndromes.f (k : Nat) (a1 : Int × Int × Int) (a2 : List Int) : Option (List Int):=(code_Right.f (a1.1,a1.2.1,a1.2.2)).bind fun x6=>bif !decide (x6 = 0) then (some ([] : List (Int))) else (bif !decide ((a2.length : Int) = a1.1) then (some ([] : List (Int))) else ((code_Roots.f k (a1.1,a1.2.1,a1.2.2)).bind fun x10=>(value_All.f k a2 x10).bind fun x13=>some x13))
theorem synd_Syndromes.calls {w0 : World} {k : Nat} {f0_ : FD} {a1 : Int × Int × Int} {a2 : List Int} {v2_ : Value} {r : List Int} (hf : (Rs.fld f0_).inv w0) (h2 : Rd (.of (.int .u8)) w0 (Ol (Rs.fld f0_).fp w0) v2_ a2) (E : synd_Syndromes.f k a1 a2 = some r) :
   Calls Tryz.prog 47 #[pt f0_.p,.agg #[.int .i64 a1.1,.int .i64 a1.2.1,.int .i64 a1.2.2],v2_] w0 fun e w'=>∃ (u0 : Value),e = .returned (u0) ∧ St (Rs.fld f0_).fp w0 w' [.fld f0_,.own (.int .u8) 5 u0 r]:=by
 have H:=St.start hf
 unfold synd_Syndromes.f at E
 refine calls_of_wc (N:=27) (args:=[pt f0_.p,.agg #[.int .i64 a1.1,.int .i64 a1.2.1,.int .i64 a1.2.2],v2_]) Tryz.func47 z z (by simp) ?_
 refine rg (e_ z (y_boxS (cs:=#[.int .i64 a1.1,.int .i64 a1.2.1,.int .i64 a1.2.2]) H z (fun b1 w H=>(v_ z (sg (.slice none 0 0) z) (nl (wc_seq (rg (v_ z (mv (pt f0_.p) z) (v_ z (r_peql0 Tryz.underlying79 z z) (v_ z (mv (.bool false) z) (on_ z z z (r_loadB (l:=[.int .i64 a1.1,.int .i64 a1.2.1,.int .i64 a1.2.2]) e_ag_24 (H.get 1 z) z z z) ?_)))))))))))
 obtain ⟨x6,E7,E⟩:=bind_some E
 refine wl_on z z z (y_callL e_en_38 z ((code_Right.calls E7).mono ?_))
 rintro _ w ⟨rfl,K⟩
 have H:=H.app K
 refine ⟨_,z,(on_ z z z (r_neq z z) (v_ z (pF (.bool (!decide (x6 = 0))) z z z) (v_ z (mv (.bool (!decide (x6 = 0))) z) ?_)))⟩
 rcases Bool.eq_false_or_eq_true (!decide (x6 = 0)) with c8 | c8
 · have E:=iT c8 E
   refine off_ c8 z z z (off_ c8 z z z (off_ c8 z z z (off_ c8 z z z (off_ c8 z z z (v_ z (pT (.bool true) z z c8) (nl (wc_condT z (rg (v_ z (sg (.slice none 0 0) z) (nl (wc_ret ?_)))))))))))
   have H:=H.nilOwn (.int .u8) 5
   cases E
   exact (r_thn ⟨.inl z,_,tk0 z ⟨resN z (rv_t rv_nil),_,z,H.sub2 0 2 z z z⟩⟩)
 · have E:=iF c8 E
   refine on_ c8 z z (mv v2_ z) (on_ c8 z z (r_lenR e_ul_22 (H.rd h2) z) (on_ c8 z z (r_faddr e_fa_24_0 z) (on_ c8 z z (r_load e_sc_3 z (blk_cell (H.get 1 z) z)) (on_ c8 z z (r_neq z z) (v_ z (pF (.bool (!decide ((a2.length : Int) = a1.1))) z z c8) (nl ?_))))))
   refine wc_cond z (fun c9=>?_) (fun c9=>?_)
   · have E:=iT c9 E
     refine rg (v_ z (sg (.slice none 0 0) z) (nl (wc_ret ?_)))
     have H:=H.nilOwn (.int .u8) 5
     cases E
     exact (r_thn ⟨.inl z,_,tk0 z ⟨resN z (rv_t rv_nil),_,z,H.sub2 0 2 z z z⟩⟩)
   · have E:=iF c9 E
     refine wc_skip (n_thn (rg (v_ z (mv (pt f0_.p) z) (v_ z (mv v2_ z) (v_ z (mv (pt f0_.p) z) (v_ z (r_loadB (l:=[.int .i64 a1.1,.int .i64 a1.2.1,.int .i64 a1.2.2]) e_ag_24 (H.get 1 z) z z z) ?_))))))
     obtain ⟨x10,E11,E⟩:=bind_some E
     refine e_ z (y_callL e_en_79 z ((code_Roots.calls (H.get 0 z) E11).mono ?_))
     rintro _ w ⟨v12,rfl,K⟩
     have H:=H.appX 0 z K
     refine ⟨_,z,?_⟩
     obtain ⟨x13,E14,E⟩:=bind_some E
     refine e_ z (y_callL e_en_78 z ((value_All.calls (H.get 0 z) (H.argX 0 z (H.rd h2)) (H.ownX 2 0 z z z (own_rd (H.get 2 z))) E14).mono ?_))
     rintro _ w ⟨v15,rfl,K⟩
     have H:=H.appX 0 z K
     refine ⟨_,z,(v_ z (sg v15 z) (nl (wc_ret ?_)))⟩
     cases E
     exact ⟨.inl z,_,tk0 z ⟨resN z (rv_t rv_nil),_,z,H.sub2 0 3 z z z⟩⟩
def synd_Locator.l0 : Nat → List Int → List (Int) → Int → Option (List Int)
 | 0,_,_,_=>none
 | k + 1,a1,l13,x14=>bif decide (x14 < (a1.length : Int)) then (grd (decide ((0 : Int) ≤ x14 ∧ x14 < (a1.length : Int))) ((code_Point.f (at_ 0 a1 x14)).bind fun x32=>(poly_Mul.f k l13 ([1,x32])).bind fun x35=>synd_Locator.l0 k a1 x35 (i64.wrap (x14 + 1)))) else (some l13)
def synd_Locator.f (k : Nat) (a1 : List Int) : Option (List Int):=synd_Locator.l0 k a1 ([1]) 0
theorem synd_Locator.calls {w0 : World} {k : Nat} {f0_ : FD} {a1 : List Int} {v1_ : Value} {r : List Int} (hf : (Rs.fld f0_).inv w0) (h1 : Rd (.of (.int .i64)) w0 (Ol (Rs.fld f0_).fp w0) v1_ a1) (E : synd_Locator.f k a1 = some r) :
   Calls Tryz.prog 228 #[pt f0_.p,v1_] w0 fun e w'=>∃ (u0 : Value),e = .returned (u0) ∧ St (Rs.fld f0_).fp w0 w' [.fld f0_,.own (.int .u8) 5 u0 r]:=by
 have H:=St.start hf
 unfold synd_Locator.f at E
 refine calls_of_wc (N:=26) (args:=[pt f0_.p,v1_]) Tryz.func228 z z (by simp) ?_
 refine rg (v_ z (sg (.slice none 0 0) z) (nl (wc_seq (rg (v_ z (mv (pt f0_.p) z) (v_ z (r_peql0 Tryz.underlying79 z z) (nl (wc_condF z (wc_skip (n_thn (rg (e_ z (y_bsL (e:=(.int .u8)) (l:=[1]) e_sl_22 H z (by decide) ⟨z,z,trivial⟩ (by decide) (fun v1 w H=>(v_ z (sg v1 z) (nl (wc_seq (rg (v_ z (mv v1_ z) (v_ z (r_lenR e_ul_45 (H.rd h1) z) (v_ z (mv (.int .i64 0) z) (nl (wc_block ?_)))))))))))))))))))))))
 refine wc_loop (fun kk t w=>∃ (l13 : List (Int)) (x14 : Int) (v12 : Value) (t27 : Fr),kk ≤ k ∧ synd_Locator.l0 kk a1 l13 x14 = some r ∧ t = upds t27 [(0,pt f0_.p),(4,.slice none 0 0),(5,v12),(11,v1_),(12,.int .i64 (a1.length : Int)),(13,.int .i64 x14),(1000000,undef)] ∧ St (Rs.fld f0_).fp w0 w [.fld f0_,.own (.int .u8) 5 v12 l13]) k ?_ ?_
 · exact ⟨_,_,_,_,Nat.le_refl _,E,upds_eq ⟨z,z,z,z,z,z,z,trivial⟩,H⟩
 rintro kk t w ⟨l13,x14,v12,t27,hk26,E,rfl,H⟩
 obtain ⟨k25,rfl⟩ | rfl : (∃ k',kk = k' + 1) ∨ kk = 0:=by cases kk; exact .inr rfl; exact .inl ⟨_,rfl⟩
 rotate_left
 · cases E
 rw [synd_Locator.l0] at E
 refine rg (v_ z (r_lss z z) (nl (wc_seq ?_)))
 refine wc_cond z (fun c29=>?_) (fun c29=>?_)
 · have E:=iT c29 E
   refine wc_skip (n_thn (wc_seq (wc_block (rg ?_))))
   obtain ⟨⟨g30,g31⟩,E⟩:=grd_some E
   refine v_ z (r_idx e_sl_45 (H.rd h1) z z g30 g31) (v_ z (r_ldI e_sc_3 (H.rd h1) g30 g31 z) (v_ z (sg (.int .i64 (at_ 0 a1 x14)) z) (nl (wc_region (v_ z (mv (pt f0_.p) z) (v_ z (mv v12 z) (v_ z (mv (pt f0_.p) z) (v_ z (mv (.int .i64 (at_ 0 a1 x14)) z) ?_))))))))
   obtain ⟨x32,E33,E⟩:=bind_some E
   refine e_ z (y_callL e_en_140 z ((code_Point.calls (H.get 0 z) E33).mono ?_))
   rintro _ w ⟨rfl,K⟩
   have H:=H.appX 0 z K
   refine ⟨_,z,(e_ z (y_bsL (e:=(.int .u8)) (l:=[1,x32]) e_sl_22 H z (by decide) ⟨z,z,z,z,trivial⟩ (by decide) (fun v34 w H=>?_)))⟩
   obtain ⟨x35,E36,E⟩:=bind_some E
   refine e_ z (y_callL e_en_180 z ((poly_Mul.calls (H.get 0 z) (H.ownX 1 0 z z z (own_rd (H.get 1 z))) (H.ownX 2 0 z z z (own_rd (H.get 2 z))) E36).mono ?_))
   rintro _ w ⟨v37,rfl,K⟩
   have H:=H.appX 0 z K
   refine ⟨_,z,(v_ z (sg v37 z) (wl_nil (n_bk (n_thn (wc_region (v_ z (r_add z z) (v_ z (mv (.int .i64 (i64.wrap (x14 + 1))) z) (wl_nil ?_))))))))⟩
   exact ⟨k25,Nat.lt_succ_self _,_,_,_,_,Nat.le_of_succ_le hk26,E,upds_eq ⟨z,z,z,z,z,z,z,trivial⟩,H.sel [0,3] z z⟩
 · have E:=iF c29 E
   refine wc_exit (x_thn (x_thn (x_bk (n_thn (rg (v_ z (mv v12 z) (v_ z (sg v12 z) (nl (wc_ret ?_)))))))))
   cases E
   exact ⟨.inl z,_,tk0 z ⟨resN z (rv_t rv_nil),_,z,H.sub2 0 1 z z z⟩⟩
def synd_Modified.f (k : Nat) (a1 : List Int) (a2 : List Int) : Option (List Int):=grd (decide ((0 : Int) ≤ (a1.length : Int) ∧ (a1.length : Int) ≤ (a1.length : Int) ∧ (a1.length : Int) ≤ 140737488355328)) ((poly_Mul.f k a1 a2).bind fun x5=>some (cpy 0 (List.replicate (a1.length : Int).toNat (0 : Int)).length x5 (List.replicate (a1.length : Int).toNat (0 : Int))))
theorem synd_Modified.calls {w0 : World} {k : Nat} {f0_ : FD} {a1 : List Int} {a2 : List Int} {v1_ : Value} {v2_ : Value} {r : List Int} (hf : (Rs.fld f0_).inv w0) (h1 : Rd (.of (.int .u8)) w0 (Ol (Rs.fld f0_).fp w0) v1_ a1) (h2 : Rd (.of (.int .u8)) w0 (Ol (Rs.fld f0_).fp w0) v2_ a2) (E : synd_Modified.f k a1 a2 = some r) :
   Calls Tryz.prog 229 #[pt f0_.p,v1_,v2_] w0 fun e w'=>∃ (u0 : Value),e = .returned (u0) ∧ St (Rs.fld f0_).fp w0 w' [.fld f0_,.own (.int .u8) 5 u0 r]:=by
 have H:=St.start hf
 unfold synd_Modified.f at E
 refine calls_of_wc (N:=20) (args:=[pt f0_.p,v1_,v2_]) Tryz.func229 z z (by simp) ?_
 refine rg (v_ z (sg (.slice none 0 0) z) (nl (wc_seq (rg (v_ z (mv (pt f0_.p) z) (v_ z (r_peql0 Tryz.underlying79 z z) (nl (wc_condF z (wc_skip (n_thn (rg (v_ z (mv v1_ z) (v_ z (r_lenR e_ul_22 (H.rd h1) z) ?_)))))))))))))
 obtain ⟨⟨g2,g3,g4⟩,E⟩:=grd_some E
 refine e_ z (y_make (e:=(.int .u8)) (z0:=0) e_sl_22 z H z z g2 g3 (by omega) (by omega) (fun v1 w H=>(v_ z (sg v1 z) (nl (rg (v_ z (mv v1 z) (v_ z (mv (pt f0_.p) z) (v_ z (mv v1_ z) (v_ z (mv v2_ z) ?_)))))))))
 obtain ⟨x5,E6,E⟩:=bind_some E
 refine e_ z (y_callL e_en_180 z ((poly_Mul.calls (H.get 0 z) (H.argX 0 z (H.rd h1)) (H.argX 0 z (H.rd h2)) E6).mono ?_))
 rintro _ w ⟨v7,rfl,K⟩
 have H:=H.appX 0 z K
 refine ⟨_,z,(e_ z (y_copy e_sl_22 H 1 z (own_rd (H.get 2 z)) z z (fun w H=>(nl (rg (v_ z (mv v1 z) (v_ z (sg v1 z) (nl (wc_ret ?_)))))))))⟩
 cases E
 exact ⟨.inl z,_,tk0 z ⟨resN z (rv_t rv_nil),_,z,H.sub2 0 1 z z z⟩⟩
def three_job_lacking.f (k : Nat) (a0 : (Int × Int × Int) × List Int × List Int) : Option (List Int × List Int × List Int):=(synd_Syndromes.f k (a0.1.1,a0.1.2.1,a0.1.2.2) a0.2.1).bind fun x2=>(synd_Locator.f k a0.2.2).bind fun x5=>(synd_Modified.f k x2 x5).bind fun x8=>some (x2,x5,x8)
theorem three_job_lacking.calls {w0 : World} {k : Nat} {f0_ : FD} {a0 : (Int × Int × Int) × List Int × List Int} {v0_4_ : Value} {v0_5_ : Value} {r : List Int × List Int × List Int} (hf : (Rs.fld f0_).inv w0) (h0_4 : Rd (.of (.int .u8)) w0 (Ol (Rs.fld f0_).fp w0) v0_4_ a0.2.1) (h0_5 : Rd (.of (.int .i64)) w0 (Ol (Rs.fld f0_).fp w0) v0_5_ a0.2.2) (E : three_job_lacking.f k a0 = some r) :
   Calls Tryz.prog 178 #[.agg #[pt f0_.p,.int .i64 a0.1.1,.int .i64 a0.1.2.1,.int .i64 a0.1.2.2,v0_4_,v0_5_]] w0 fun e w'=>∃ (u0 : Value) (u1 : Value) (u2 : Value),e = .returned (.tuple #[u0,u1,u2]) ∧ St (Rs.fld f0_).fp w0 w' [.fld f0_,.own (.int .u8) 5 u0 r.1,.own (.int .u8) 5 u1 r.2.1,.own (.int .u8) 5 u2 r.2.2]:=by
 have H:=St.start hf
 unfold three_job_lacking.f at E
 refine calls_of_wc (N:=24) (args:=[.agg #[pt f0_.p,.int .i64 a0.1.1,.int .i64 a0.1.2.1,.int .i64 a0.1.2.2,v0_4_,v0_5_]]) Tryz.func178 z z (by simp) ?_
 refine rg (e_ z (y_boxS (cs:=#[pt f0_.p,.int .i64 a0.1.1,.int .i64 a0.1.2.1,.int .i64 a0.1.2.2,v0_4_,v0_5_]) H z (fun b1 w H=>(v_ z (sg (.slice none 0 0) z) (v_ z (sg (.slice none 0 0) z) (v_ z (sg (.slice none 0 0) z) (nl (rg (v_ z (r_faddr e_fa_218_0 z) (v_ z (r_load e_sc_79 z (blk_cell (H.get 1 z) z)) (v_ z (r_faddr e_fa_218_1 z) (v_ z (r_loadB (l:=[.int .i64 a0.1.1,.int .i64 a0.1.2.1,.int .i64 a0.1.2.2]) e_ag_24 (H.get 1 z) z z z) (v_ z (r_faddr e_fa_218_2 z) (v_ z (r_load e_sc_22 z (blk_cell (H.get 1 z) z)) ?_))))))))))))))
 obtain ⟨x2,E3,E⟩:=bind_some E
 refine e_ z (y_callL e_en_47 z ((synd_Syndromes.calls (H.get 0 z) (H.argX 0 z (H.rd h0_4)) E3).mono ?_))
 rintro _ w ⟨v4,rfl,K⟩
 have H:=H.appX 0 z K
 refine ⟨_,z,(v_ z (sg v4 z) (nl (rg (v_ z (r_faddr e_fa_218_0 z) (v_ z (r_load e_sc_79 z (blk_cell (H.get 1 z) z)) (v_ z (r_faddr e_fa_218_3 z) (v_ z (r_load e_sc_45 z (blk_cell (H.get 1 z) z)) ?_)))))))⟩
 obtain ⟨x5,E6,E⟩:=bind_some E
 refine e_ z (y_callL e_en_228 z ((synd_Locator.calls (H.get 0 z) (H.argX 0 z (H.rd h0_5)) E6).mono ?_))
 rintro _ w ⟨v7,rfl,K⟩
 have H:=H.appX 0 z K
 refine ⟨_,z,(v_ z (sg v7 z) (nl (rg (v_ z (mv v4 z) (v_ z (mv v7 z) (v_ z (r_faddr e_fa_218_0 z) (v_ z (r_load e_sc_79 z (blk_cell (H.get 1 z) z)) (v_ z (mv v4 z) (v_ z (mv v7 z) ?_)))))))))⟩
 obtain ⟨x8,E9,E⟩:=bind_some E
 refine e_ z (y_callL e_en_229 z ((synd_Modified.calls (H.get 0 z) (H.ownX 2 0 z z z (own_rd (H.get 2 z))) (H.ownX 3 0 z z z (own_rd (H.get 3 z))) E9).mono ?_))
 rintro _ w ⟨v10,rfl,K⟩
 have H:=H.appX 0 z K
 refine ⟨_,z,(v_ z (sg v4 z) (v_ z (sg v7 z) (v_ z (sg v10 z) (nl (wc_ret ?_)))))⟩
 cases E
 exact ⟨.inl z,_,tk0 z ⟨resN z (rv_t (rv_t (rv_t rv_nil))),_,_,_,z,H.sel [0,2,3,4] z z⟩⟩
def poly_Coef.f (a0 : List Int) (a1 : Int) : Option (Int):=bif decide (a1 < 0) then (some 0) else (bif decide ((a0.length : Int) ≤ a1) then (some 0) else (grd (decide ((0 : Int) ≤ a1 ∧ a1 < (a0.length : Int))) (some (at_ 0 a0 a1))))
theorem poly_Coef.calls {w0 : World} {a0 : List Int} {a1 : Int} {v0_ : Value} {r : Int} (h0 : Rd (.of (.int .u8)) w0 (Ol no w0) v0_ a0) (E : poly_Coef.f a0 a1 = some r) :
   Calls Tryz.prog 238 #[v0_,.int .i64 a1] w0 fun e w'=>e = .returned (.int .u8 r) ∧ St no w0 w' []:=by
 have H:=St.nil no w0
 unfold poly_Coef.f at E
 refine calls_of_wc (N:=17) (args:=[v0_,.int .i64 a1]) Tryz.func238 z z (by simp) ?_
 refine rg (v_ z (sg (.int .u8 0) z) (nl (wc_seq (rg (v_ z (mv (.int .i64 a1) z) (v_ z (r_lss z z) (v_ z (mv (.bool (decide (a1 < 0))) z) ?_)))))))
 rcases Bool.eq_false_or_eq_true (decide (a1 < 0)) with c1 | c1
 · have E:=iT c1 E
   refine off_ c1 z z z (off_ c1 z z z (off_ c1 z z z (off_ c1 z z z (v_ z (pT (.bool true) z z c1) (nl (wc_condT z (rg (v_ z (sg (.int .u8 0) z) (nl (wc_ret ?_))))))))))
   cases E
   exact (r_thn ⟨.inl z,_,tk0 z ⟨resN z (rv_t rv_nil),z,H.sub0⟩⟩)
 · have E:=iF c1 E
   refine on_ c1 z z (mv (.int .i64 a1) z) (on_ c1 z z (mv v0_ z) (on_ c1 z z (r_lenR e_ul_22 (H.rd h0) z) (on_ c1 z z (r_geq z z) (v_ z (pF (.bool (decide ((a0.length : Int) ≤ a1))) z z c1) (nl ?_)))))
   refine wc_cond z (fun c2=>?_) (fun c2=>?_)
   · have E:=iT c2 E
     refine rg (v_ z (sg (.int .u8 0) z) (nl (wc_ret ?_)))
     cases E
     exact (r_thn ⟨.inl z,_,tk0 z ⟨resN z (rv_t rv_nil),z,H.sub0⟩⟩)
   · have E:=iF c2 E
     refine wc_skip (n_thn (rg (v_ z (mv v0_ z) (v_ z (mv (.int .i64 a1) z) ?_))))
     obtain ⟨⟨g3,g4⟩,E⟩:=grd_some E
     refine v_ z (r_idx e_sl_22 (H.rd h0) z z g3 g4) (v_ z (r_ldI e_sc_5 (H.rd h0) g3 g4 z) (v_ z (sg (.int .u8 (at_ 0 a0 a1)) z) (nl (wc_ret ?_))))
     cases E
     exact ⟨.inl z,_,tk0 z ⟨resN z (rv_t rv_nil),z,H.sub0⟩⟩
def massey_sum.l0 : Nat → List Int → Int → List Int → Int → Int → Int → Option (Int)
 | 0,_,_,_,_,_,_=>none
 | k + 1,a1,a2,a3,a4,x9,x10=>bif decide (x10 < a2) then ((poly_Coef.f a1 (i64.wrap (x10 + 1))).bind fun x24=>(poly_Coef.f a3 (i64.wrap ((i64.wrap (a4 - x10)) - 1))).bind fun x26=>(field_Field_Mul.f x24 x26).bind fun x28=>massey_sum.l0 k a1 a2 a3 a4 (bits .xor .u8 x9 x28) (i64.wrap (x10 + 1))) else (some x9)
def massey_sum.f (k : Nat) (a1 : List Int) (a2 : Int) (a3 : List Int) (a4 : Int) : Option (Int):=massey_sum.l0 k a1 a2 a3 a4 0 0
theorem massey_sum.calls {w0 : World} {k : Nat} {f0_ : FD} {a1 : List Int} {a2 : Int} {a3 : List Int} {a4 : Int} {v1_ : Value} {v3_ : Value} {r : Int} (hf : (Rs.fld f0_).inv w0) (h1 : Rd (.of (.int .u8)) w0 (Ol (Rs.fld f0_).fp w0) v1_ a1) (h3 : Rd (.of (.int .u8)) w0 (Ol (Rs.fld f0_).fp w0) v3_ a3) (E : massey_sum.f k a1 a2 a3 a4 = some r) :
   Calls Tryz.prog 230 #[pt f0_.p,v1_,.int .i64 a2,v3_,.int .i64 a4] w0 fun e w'=>e = .returned (.int .u8 r) ∧ St (Rs.fld f0_).fp w0 w' [.fld f0_]:=by
 have H:=St.start hf
 unfold massey_sum.f at E
 refine calls_of_wc (N:=33) (args:=[pt f0_.p,v1_,.int .i64 a2,v3_,.int .i64 a4]) Tryz.func230 z z (by simp) ?_
 refine rg (v_ z (sg (.int .u8 0) z) (nl (rg (v_ z (sg (.int .u8 0) z) (nl (wc_seq (rg (v_ z (mv (.int .i64 a2) z) (v_ z (mv (.int .i64 0) z) (nl (wc_block ?_)))))))))))
 refine wc_loop (fun kk t w=>∃ (x9 : Int) (x10 : Int) (t21 : Fr),kk ≤ k ∧ massey_sum.l0 kk a1 a2 a3 a4 x9 x10 = some r ∧ t = upds t21 [(0,pt f0_.p),(1,v1_),(3,v3_),(4,.int .i64 a4),(10,.int .u8 0),(11,.int .u8 x9),(13,.int .i64 a2),(14,.int .i64 x10),(1000000,undef)] ∧ St (Rs.fld f0_).fp w0 w [.fld f0_]) k ?_ ?_
 · exact ⟨_,_,_,Nat.le_refl _,E,upds_eq ⟨z,z,z,z,z,z,z,z,z,trivial⟩,H⟩
 rintro kk t w ⟨x9,x10,t21,hk20,E,rfl,H⟩
 obtain ⟨k19,rfl⟩ | rfl : (∃ k',kk = k' + 1) ∨ kk = 0:=by cases kk; exact .inr rfl; exact .inl ⟨_,rfl⟩
 rotate_left
 · cases E
 rw [massey_sum.l0] at E
 refine rg (v_ z (r_lss z z) (nl (wc_seq ?_)))
 refine wc_cond z (fun c23=>?_) (fun c23=>?_)
 · have E:=iT c23 E
   refine wc_skip (n_thn (wc_seq (wc_block (rg (v_ z (mv (.int .i64 x10) z) (v_ z (sg (.int .i64 x10) z) (nl (wc_region (v_ z (mv (.int .u8 x9) z) (v_ z (mv (pt f0_.p) z) (v_ z (mv v1_ z) (v_ z (mv (.int .i64 x10) z) (v_ z (r_add z z) ?_)))))))))))))
   obtain ⟨x24,E25,E⟩:=bind_some E
   refine e_ z (y_callL e_en_238 z ((poly_Coef.calls (H.arg (H.rd h1)) E25).mono ?_))
   rintro _ w ⟨rfl,K⟩
   have H:=H.app K
   refine ⟨_,z,(v_ z (mv v3_ z) (v_ z (mv (.int .i64 a4) z) (v_ z (mv (.int .i64 x10) z) (v_ z (r_sub z z) (v_ z (r_sub z z) ?_)))))⟩
   obtain ⟨x26,E27,E⟩:=bind_some E
   refine e_ z (y_callL e_en_238 z ((poly_Coef.calls (H.arg (H.rd h3)) E27).mono ?_))
   rintro _ w ⟨rfl,K⟩
   have H:=H.app K
   refine ⟨_,z,?_⟩
   obtain ⟨x28,E29,E⟩:=bind_some E
   refine e_ z (y_callL e_en_195 z ((field_Field_Mul.calls (H.get 0 z) E29).mono ?_))
   rintro _ w ⟨rfl,K⟩
   have H:=H.appX 0 z K
   refine ⟨_,z,(v_ z (r_xor z z) (v_ z (sg (.int .u8 (bits .xor .u8 x9 x28)) z) (wl_nil (n_bk (n_thn (wc_region (v_ z (r_add z z) (v_ z (mv (.int .i64 (i64.wrap (x10 + 1))) z) (wl_nil ?_)))))))))⟩
   exact ⟨k19,Nat.lt_succ_self _,_,_,_,Nat.le_of_succ_le hk20,E,upds_eq ⟨z,z,z,z,z,z,z,z,z,trivial⟩,H⟩
 · have E:=iF c23 E
   refine wc_exit (x_thn (x_thn (x_bk (n_thn (rg (v_ z (mv (.int .u8 x9) z) (v_ z (sg (.int .u8 x9) z) (nl (wc_ret ?_)))))))))
   cases E
   exact ⟨.inl z,_,tk0 z ⟨resN z (rv_t rv_nil),z,H.sub1 0 z⟩⟩
def field_Field_Div.f (a1 : Int) (a2 : Int) : Option (Int × Bool):=(field_Field_Inv.f a2).bind fun x1=>bif !x1.2 then (some (0,false)) else ((field_Field_Mul.f a1 x1.1).bind fun x5=>some (x5,true))
theorem field_Field_Div.calls {w0 : World} {f0_ : FD} {a1 : Int} {a2 : Int} {r : Int × Bool} (hf : (Rs.fld f0_).inv w0) (E : field_Field_Div.f a1 a2 = some r) :
   Calls Tryz.prog 186 #[pt f0_.p,.int .u8 a1,.int .u8 a2] w0 fun e w'=>e = .returned (.tuple #[.int .u8 r.1,.bool r.2]) ∧ St (Rs.fld f0_).fp w0 w' [.fld f0_]:=by
 have H:=St.start hf
 unfold field_Field_Div.f at E
 refine calls_of_wc (N:=22) (args:=[pt f0_.p,.int .u8 a1,.int .u8 a2]) Tryz.func186 z z (by simp) ?_
 refine rg (v_ z (sg (.int .u8 0) z) (v_ z (sg (.bool false) z) (nl (rg (v_ z (mv (pt f0_.p) z) (v_ z (mv (.int .u8 a2) z) ?_))))))
 obtain ⟨x1,E2,E⟩:=bind_some E
 refine e_ z (y_callL e_en_221 z ((field_Field_Inv.calls (H.get 0 z) E2).mono ?_))
 rintro _ w ⟨rfl,K⟩
 have H:=H.appX 0 z K
 refine ⟨_,z,(v_ z (r_move) (v_ z (r_extract z z) (v_ z (r_extract z z) (v_ z (sg (.int .u8 x1.1) z) (v_ z (sg (.bool x1.2) z) (nl (wc_seq (rg (v_ z (mv (.bool x1.2) z) (v_ z (r_not z) (nl ?_)))))))))))⟩
 refine wc_cond z (fun c4=>?_) (fun c4=>?_)
 · have E:=iT c4 E
   refine rg (v_ z (sg (.int .u8 0) z) (v_ z (sg (.bool false) z) (nl (wc_ret ?_))))
   cases E
   exact (r_thn ⟨.inl z,_,tk0 z ⟨resN z (rv_t (rv_t rv_nil)),z,H.sub1 0 z⟩⟩)
 · have E:=iF c4 E
   refine wc_skip (n_thn (rg (v_ z (mv (pt f0_.p) z) (v_ z (mv (.int .u8 a1) z) (v_ z (mv (.int .u8 x1.1) z) ?_)))))
   obtain ⟨x5,E6,E⟩:=bind_some E
   refine e_ z (y_callL e_en_195 z ((field_Field_Mul.calls (H.get 0 z) E6).mono ?_))
   rintro _ w ⟨rfl,K⟩
   have H:=H.appX 0 z K
   refine ⟨_,z,(v_ z (sg (.int .u8 x5) z) (v_ z (sg (.bool true) z) (nl (wc_ret ?_))))⟩
   cases E
   exact ⟨.inl z,_,tk0 z ⟨resN z (rv_t (rv_t rv_nil)),z,H.sub1 0 z⟩⟩
def massey_Massey.l0 : Nat → List Int → Int → Int → Option (List Int × Int)
 | 0,_,_,_=>none
 | k + 1,a1,x18,x19=>bif decide (x19 < (a1.length : Int)) then (grd (decide ((0 : Int) ≤ x19 ∧ x19 < (a1.length : Int))) ((massey_sum.f k ([1]) 0 a1 x19).bind fun x35=>bif decide (bits .xor .u8 (at_ 0 a1 x19) x35 = 0) then (massey_Massey.l0 k a1 (i64.wrap (x18 + 1)) (i64.wrap (x19 + 1))) else (none))) else (some ([1],0))
def massey_Massey.f (k : Nat) (a1 : List Int) : Option (List Int × Int):=massey_Massey.l0 k a1 1 0
theorem massey_Massey.calls {w0 : World} {k : Nat} {f0_ : FD} {a1 : List Int} {v1_ : Value} {r : List Int × Int} (hf : (Rs.fld f0_).inv w0) (h1 : Rd (.of (.int .u8)) w0 (Ol (Rs.fld f0_).fp w0) v1_ a1) (E : massey_Massey.f k a1 = some r) :
   Calls Tryz.prog 179 #[pt f0_.p,v1_] w0 fun e w'=>∃ (u0 : Value),e = .returned (.tuple #[u0,.int .i64 r.2]) ∧ St (Rs.fld f0_).fp w0 w' [.fld f0_,.own (.int .u8) 5 u0 r.1]:=by
 have H:=St.start hf
 unfold massey_Massey.f at E
 refine calls_of_wc (N:=48) (args:=[pt f0_.p,v1_]) Tryz.func179 z z (by simp) ?_
 refine rg (v_ z (sg (.slice none 0 0) z) (v_ z (sg (.int .i64 0) z) (nl (wc_seq (rg (v_ z (mv (pt f0_.p) z) (v_ z (r_peql0 Tryz.underlying79 z z) (nl (wc_condF z (wc_skip (n_thn (rg (e_ z (y_bsL (e:=(.int .u8)) (l:=[1]) e_sl_22 H z (by decide) ⟨z,z,trivial⟩ (by decide) (fun v1 w H=>(e_ z (y_bsL (e:=(.int .u8)) (l:=[1]) e_sl_22 H z (by decide) ⟨z,z,trivial⟩ (by decide) (fun v2 w H=>?_))))))))))))))))))
 obtain ⟨p3,n4,c5,rfl⟩:=own_form (H.get 1 z)
 obtain ⟨p6,n7,c8,rfl⟩:=own_form (H.get 2 z)
 refine v_ z (r_build (cs:=[(.slice p3 n4 c5),.int .i64 0,(.slice p6 n7 c8),.int .u8 1,.int .i64 1]) e_bd_321 z) (e_ z (y_allocS e_zr_321 H (fun b9 w H=>(s_ (y_storeBA e_sz_321 H 3 z z z z z z (fun w H=>(nl (wc_seq (rg (v_ z (mv v1_ z) (v_ z (r_lenR e_ul_22 (H.rd h1) z) (v_ z (mv (.int .i64 0) z) (nl (wc_block ?_))))))))))))))
 refine wc_loop (fun kk t w=>∃ (x18 : Int) (x19 : Int) (t30 : Fr),kk ≤ k ∧ massey_Massey.l0 kk a1 x18 x19 = some r ∧ t = upds t30 [(0,pt f0_.p),(1,v1_),(4,.slice none 0 0),(5,.int .i64 0),(6,pt b9),(15,.int .i64 (a1.length : Int)),(16,.int .i64 x19),(1000000,undef)] ∧ St (Rs.fld f0_).fp w0 w [.fld f0_,.own (.int .u8) 5 (.slice p3 n4 c5) ([1]),.own (.int .u8) 5 (.slice p6 n7 c8) ([1]),.blk b9 #[(.slice p3 n4 c5),.int .i64 0,(.slice p6 n7 c8),.int .u8 1,.int .i64 x18] 321]) k ?_ ?_
 · exact ⟨_,_,_,Nat.le_refl _,E,upds_eq ⟨z,z,z,z,z,z,z,z,trivial⟩,H⟩
 rintro kk t w ⟨x18,x19,t30,hk29,E,rfl,H⟩
 obtain ⟨k28,rfl⟩ | rfl : (∃ k',kk = k' + 1) ∨ kk = 0:=by cases kk; exact .inr rfl; exact .inl ⟨_,rfl⟩
 rotate_left
 · cases E
 rw [massey_Massey.l0] at E
 refine rg (v_ z (r_lss z z) (nl (wc_seq ?_)))
 refine wc_cond z (fun c32=>?_) (fun c32=>?_)
 · have E:=iT c32 E
   refine wc_skip (n_thn (wc_seq (wc_block (rg (v_ z (mv (.int .i64 x19) z) (v_ z (sg (.int .i64 x19) z) (nl (wc_seq (wc_drawnS (ds:=[]) e_mo H z z ?_)))))))))
   have H:=H.drew
   refine wt 0 (tf 1 14) z z z (by kernel_rfl) H (fun w H=>(mv v1_ z)) (wt 1 (tf 2 14) z z z (by kernel_rfl) H (fun w H=>(mv (.int .i64 x19) z)) ?_)
   obtain ⟨⟨g33,g34⟩,E⟩:=grd_some E
   refine wt 2 (tf 3 14) z z z (by kernel_rfl) H (fun w H=>(r_idx e_sl_22 (H.rd h1) z z g33 g34)) (wt 3 (tf 4 14) z z z (by kernel_rfl) H (fun w H=>(r_ldI e_sc_5 (H.rd h1) g33 g34 z)) (wt 4 (tf 5 14) z z z (by kernel_rfl) H (fun w H=>(mv (pt f0_.p) z)) (wt 5 (tf 6 14) z z z (by kernel_rfl) H (fun w H=>(r_faddr e_fa_321_0 z)) (wt 6 (tf 7 14) z z z (by kernel_rfl) H (fun w H=>(r_load e_sc_22 z (blk_cell (H.get 3 z) z))) (wt 7 (tf 8 14) z z z (by kernel_rfl) H (fun w H=>(r_faddr e_fa_321_1 z)) (wt 8 (tf 9 14) z z z (by kernel_rfl) H (fun w H=>(r_load e_sc_3 z (blk_cell (H.get 3 z) z))) (wt 9 (tf 10 14) z z z (by kernel_rfl) H (fun w H=>(mv v1_ z)) (wt 10 (tf 11 14) z z z (by kernel_rfl) H (fun w H=>(mv (.int .i64 x19) z)) ?_))))))))
   obtain ⟨x35,E36,E⟩:=bind_some E
   refine wa_one (i:=11) (l':=(tf 12 14)) z z z (by kernel_rfl) (y_callL e_en_230 z ((massey_sum.calls (H.get 0 z) (H.ownX 1 0 z z z (own_rd (H.get 1 z))) (H.argX 0 z (H.rd h1)) E36).mono ?_))
   rintro _ w ⟨rfl,K⟩
   have H:=H.appX 0 z K
   refine ⟨_,z,⟨fun _=>H.sel [0,1,2,3] z z,(wt 12 (tf 13 14) z z z (by kernel_rfl) (H.sel [0,1,2,3] z z) (fun w H=>(r_xor z z)) (wt 13 (tf 14 14) z z z (by kernel_rfl) (H.sel [0,1,2,3] z z) (fun w H=>(sg (.int .u8 (bits .xor .u8 (at_ 0 a1 x19) x35)) z)) (wa_done (by kernel_rfl) (n_thn (wc_seq (rg (v_ z (mv (.int .u8 (bits .xor .u8 (at_ 0 a1 x19) x35)) z) (v_ z (r_eql z z) (nl ?_)))))))))⟩⟩
   refine wc_cond z (fun c38=>?_) (fun c38=>?_)
   · have E:=iT c38 E
     refine rg (v_ z (r_faddr e_fa_321_4 z) (v_ z (r_load e_sc_3 z (blk_cell (H.get 3 z) z)) (v_ z (r_add z z) (v_ z (r_faddr e_fa_321_4 z) (s_ (y_storeB e_sz_3 H 3 z z z z z (fun w H=>(nl (wc_exit (x_thn (x_bk (n_thn (wc_region (v_ z (r_add z z) (v_ z (mv (.int .i64 (i64.wrap (x19 + 1))) z) (wl_nil ?_))))))))))))))))
     exact ⟨k28,Nat.lt_succ_self _,_,_,_,Nat.le_of_succ_le hk29,E,upds_eq ⟨z,z,z,z,z,z,z,z,trivial⟩,H⟩
   · have E:=iF c38 E
     cases E
 · have E:=iF c32 E
   refine wc_exit (x_thn (x_thn (x_bk (n_thn (wc_seq (wc_drawnS (ds:=[]) e_mo H z z ?_))))))
   have H:=H.drew
   refine wt 0 (tf 1 6) z z z (by kernel_rfl) H (fun w H=>(r_faddr e_fa_321_0 z)) (wt 1 (tf 2 6) z z z (by kernel_rfl) H (fun w H=>(r_load e_sc_22 z (blk_cell (H.get 3 z) z))) (wt 2 (tf 3 6) z z z (by kernel_rfl) H (fun w H=>(r_faddr e_fa_321_1 z)) (wt 3 (tf 4 6) z z z (by kernel_rfl) H (fun w H=>(r_load e_sc_3 z (blk_cell (H.get 3 z) z))) (wt 4 (tf 5 6) z z z (by kernel_rfl) H (fun w H=>(sg ((.slice p3 n4 c5)) z)) (wt 5 (tf 6 6) z z z (by kernel_rfl) H (fun w H=>(sg (.int .i64 0) z)) (wa_done (by kernel_rfl) (n_thn (wc_ret ?_))))))))
   cases E
   exact ⟨.inl z,_,tk0 z ⟨resN z (rv_t (rv_t rv_nil)),_,z,H.sub2 0 1 z z z⟩⟩
def synd_twice.l0 : Nat → List Int → Option (Bool)
 | 0,_=>none
 | k + 1,a0=>bif decide (0 < (a0.length : Int)) then (none) else (some false)
def synd_twice.f (k : Nat) (a0 : List Int) : Option (Bool):=synd_twice.l0 k a0
theorem synd_twice.calls {w0 : World} {k : Nat} {a0 : List Int} {v0_ : Value} {r : Bool} (h0 : Rd (.of (.int .i64)) w0 (Ol no w0) v0_ a0) (E : synd_twice.f k a0 = some r) :
   Calls Tryz.prog 128 #[v0_] w0 fun e w'=>e = .returned (.bool r) ∧ St no w0 w' []:=by
 have H:=St.nil no w0
 unfold synd_twice.f at E
 refine calls_of_wc (N:=26) (args:=[v0_]) Tryz.func128 z z (by simp) ?_
 refine rg (v_ z (sg (.bool false) z) (nl (rg (e_ z (y_mkMap H 3 (fun b1 w H=>(v_ z (sg (.map (some b1)) z) (nl (wc_seq (rg (v_ z (mv v0_ z) (v_ z (r_lenR e_ul_45 (H.rd h0) z) (v_ z (mv (.int .i64 0) z) (nl (wc_block ?_)))))))))))))))
 refine wc_loop (fun kk t w=>∃ (t8 : Fr),kk ≤ k ∧ synd_twice.l0 kk a0 = some r ∧ t = upds t8 [(2,.bool false),(3,.map (some b1)),(9,v0_),(10,.int .i64 (a0.length : Int)),(11,.int .i64 0),(1000000,undef)] ∧ St no w0 w [.mp Tryz.prog 3 b1 ([] : List Int)]) k ?_ ?_
 · exact ⟨_,Nat.le_refl _,E,upds_eq ⟨z,z,z,z,z,z,trivial⟩,H⟩
 rintro kk t w ⟨t8,hk7,E,rfl,H⟩
 obtain ⟨k6,rfl⟩ | rfl : (∃ k',kk = k' + 1) ∨ kk = 0:=by cases kk; exact .inr rfl; exact .inl ⟨_,rfl⟩
 rotate_left
 · cases E
 rw [synd_twice.l0] at E
 refine rg (v_ z (r_lss z z) (nl (wc_seq ?_)))
 refine wc_cond z (fun c10=>?_) (fun c10=>?_)
 · have E:=iT c10 E
   cases E
 · have E:=iF c10 E
   refine wc_exit (x_thn (x_thn (x_bk (n_thn (rg (v_ z (sg (.bool false) z) (nl (wc_ret ?_))))))))
   cases E
   exact ⟨.inl z,_,tk0 z ⟨resN z (rv_t rv_nil),z,H.sub0⟩⟩
def synd_Erasures.j0 (k : Nat) (a1 : List Int) (x64 : Int) : Option (Int):=bif decide (0 ≤ x64) then (some 13) else ((synd_twice.f k a1).bind fun x99=>bif x99 then (some 13) else (some 0))
def synd_Erasures.j1 (l0r : (Int × Int × Int) → List Int → Int → Option (Int)) (k : Nat) (a0 : Int × Int × Int) (a1 : List Int) (x75 : Int) (x93 : Bool) : Option (Int):=bif x93 then (synd_Erasures.j0 k a1 x75) else (l0r a0 a1 (i64.wrap (x75 + 1)))
def synd_Erasures.l0 : Nat → (Int × Int × Int) → List Int → Int → Option (Int)
 | 0,_,_,_=>none
 | k + 1,a0,a1,x75=>bif decide (x75 < (a1.length : Int)) then (grd (decide ((0 : Int) ≤ x75 ∧ x75 < (a1.length : Int))) (bif decide (at_ 0 a1 x75 < 0) then (synd_Erasures.j1 (synd_Erasures.l0 k) k a0 a1 x75 true) else (synd_Erasures.j1 (synd_Erasures.l0 k) k a0 a1 x75 (decide (a0.1 ≤ at_ 0 a1 x75))))) else (synd_Erasures.j0 k a1 (-1))
def synd_Erasures.f (k : Nat) (a0 : Int × Int × Int) (a1 : List Int) : Option (Int):=(code_Right.f (a0.1,a0.2.1,a0.2.2)).bind fun x2=>bif !decide (x2 = 0) then (some 10) else (synd_Erasures.l0 k a0 a1 0)
theorem synd_Erasures.calls {w0 : World} {k : Nat} {a0 : Int × Int × Int} {a1 : List Int} {v1_ : Value} {r : Int} (h1 : Rd (.of (.int .i64)) w0 (Ol no w0) v1_ a1) (E : synd_Erasures.f k a0 a1 = some r) :
   Calls Tryz.prog 73 #[.agg #[.int .i64 a0.1,.int .i64 a0.2.1,.int .i64 a0.2.2],v1_] w0 fun e w'=>e = .returned (.int .u16 r) ∧ St no w0 w' []:=by
 have H:=St.nil no w0
 unfold synd_Erasures.f at E
 refine calls_of_wc (N:=17) (args:=[.agg #[.int .i64 a0.1,.int .i64 a0.2.1,.int .i64 a0.2.2],v1_]) Tryz.func73 z z (by simp) ?_
 refine rg (e_ z (y_boxS (cs:=#[.int .i64 a0.1,.int .i64 a0.2.1,.int .i64 a0.2.2]) H z (fun b1 w H=>(v_ z (sg (.int .u16 0) z) (nl (rg (v_ z (r_mkf [pt b1] z) (v_ z (sg (.func (.func 126) #[] #[pt b1]) z) (nl (wc_seq (wc_block (rg (v_ z (r_loadB (l:=[.int .i64 a0.1,.int .i64 a0.2.1,.int .i64 a0.2.2]) e_ag_24 (H.get 0 z) z z z) ?_)))))))))))))
 obtain ⟨x2,E3,E⟩:=bind_some E
 refine e_ z (y_callL e_en_38 z ((code_Right.calls E3).mono ?_))
 rintro _ w ⟨rfl,K⟩
 have H:=H.app K
 refine ⟨_,z,(v_ z (r_neq z z) (v_ z (sg (.bool (!decide (x2 = 0))) z) (nl ?_)))⟩
 refine wc_cond z (fun c4=>?_) (fun c4=>?_)
 · have E:=iT c4 E
   refine rg (v_ z (sg (.int .u16 10) z) (nl (wc_ret ?_)))
   cases E
   exact (r_bk (r_thn ⟨.inl z,_,tk0 z ⟨resN z (rv_t rv_nil),z,H.sub0⟩⟩))
 · have E:=iF c4 E
   refine wc_seq (rg (v_ z (mv v1_ z) (v_ z (mv (.func (.func 126) #[] #[pt b1]) z) (e_ z (y_in 9 [v1_,.func (.func 126) #[] #[pt b1]] e_en_127 Tryz.func127 z z z z (rg (v_ z (sg (.bool false) z) (nl (rg (v_ z (mv v1_ z) (v_ z (mv (.func (.func 126) #[] #[pt b1]) z) ?_)))))))))))
   refine e_ z (y_J (fun v w=>∃ (k65 : Nat) (x64 : Int),k65 ≤ k ∧ synd_Erasures.j0 k65 a1 x64 = some r ∧ v = .int .i64 x64 ∧ St no w0 w [.blk b1 #[.int .i64 a0.1,.int .i64 a0.2.1,.int .i64 a0.2.2] 24]) ?_ ?_)
   · refine (y_in 19 [v1_,.func (.func 126) #[] #[pt b1]] e_en_177 Tryz.func177 z z z z (rg (v_ z (sg (.int .i64 0) z) (nl (wc_seq (rg (v_ z (mv v1_ z) (v_ z (r_lenR e_ul_45 (H.rd h1) z) (v_ z (mv (.int .i64 0) z) (nl (wc_block ?_)))))))))))
     refine wc_loop (fun kk t w=>∃ (x75 : Int) (t86 : Fr),kk ≤ k ∧ synd_Erasures.l0 kk a0 a1 x75 = some r ∧ t = upds t86 [(0,v1_),(1,.func (.func 126) #[] #[pt b1]),(4,.int .i64 0),(7,.int .i64 (a1.length : Int)),(8,.int .i64 x75),(1000000,undef)] ∧ St no w0 w [.blk b1 #[.int .i64 a0.1,.int .i64 a0.2.1,.int .i64 a0.2.2] 24]) k ?_ ?_
     · exact ⟨_,_,Nat.le_refl _,E,upds_eq ⟨z,z,z,z,z,z,trivial⟩,H⟩
     rintro kk t w ⟨x75,t86,hk85,E,rfl,H⟩
     obtain ⟨k84,rfl⟩ | rfl : (∃ k',kk = k' + 1) ∨ kk = 0:=by cases kk; exact .inr rfl; exact .inl ⟨_,rfl⟩
     rotate_left
     · cases E
     rw [synd_Erasures.l0] at E
     refine rg (v_ z (r_lss z z) (nl (wc_seq ?_)))
     refine wc_cond z (fun c88=>?_) (fun c88=>?_)
     · have E:=iT c88 E
       refine wc_skip (n_thn (wc_seq (wc_block (rg (v_ z (mv (.int .i64 x75) z) (v_ z (sg (.int .i64 x75) z) (nl (rg (v_ z (mv (.func (.func 126) #[] #[pt b1]) z) (v_ z (mv v1_ z) (v_ z (mv (.int .i64 x75) z) ?_)))))))))))
       obtain ⟨⟨g89,g90⟩,E⟩:=grd_some E
       refine v_ z (r_idx e_sl_45 (H.rd h1) z z g89 g90) (v_ z (r_ldI e_sc_3 (H.rd h1) g89 g90 z) ?_)
       refine e_ z (y_J (fun v w=>∃ (k94 : Nat) (x93 : Bool),k94 ≤ k84 ∧ synd_Erasures.j1 (synd_Erasures.l0 k94) k94 a0 a1 x75 x93 = some r ∧ v = .bool x93 ∧ St no w0 w [.blk b1 #[.int .i64 a0.1,.int .i64 a0.2.1,.int .i64 a0.2.2] 24]) ?_ ?_)
       · refine (y_inv 12 [.int .i64 (at_ 0 a1 x75),pt b1] z e_en_126 Tryz.func126 z z z z (rg (v_ z (sg (.bool false) z) (nl (rg (v_ z (mv (.int .i64 (at_ 0 a1 x75)) z) (v_ z (r_lss z z) (v_ z (mv (.bool (decide (at_ 0 a1 x75 < 0))) z) ?_))))))))
         rcases Bool.eq_false_or_eq_true (decide (at_ 0 a1 x75 < 0)) with c96 | c96
         · have E:=iT c96 E
           refine off_ c96 z z z (off_ c96 z z z (off_ c96 z z z (off_ c96 z z z (v_ z (pT (.bool true) z z c96) (v_ z (sg (.bool true) z) (nl (wc_ret ?_)))))))
           exact ⟨.inl z,.bool true,tk0 z ⟨resM z (rv_t rv_nil) z,k84,_,Nat.le_refl _,E,z,H⟩⟩
         · have E:=iF c96 E
           refine on_ c96 z z (mv (.int .i64 (at_ 0 a1 x75)) z) (on_ c96 z z (r_faddr e_fa_24_0 z) (on_ c96 z z (r_load e_sc_3 z (blk_cell (H.get 0 z) z)) (on_ c96 z z (r_geq z z) (v_ z (pF (.bool (decide (a0.1 ≤ at_ 0 a1 x75))) z z c96) (v_ z (sg (.bool (decide (a0.1 ≤ at_ 0 a1 x75))) z) (nl (wc_ret ?_)))))))
           exact ⟨.inl z,.bool (decide (a0.1 ≤ at_ 0 a1 x75)),tk0 z ⟨resM z (rv_t rv_nil) z,k84,_,Nat.le_refl _,E,z,H⟩⟩
       rintro _ w ⟨k94,x93,hk95,E,hv_,H⟩
       have hv_:=hv_.symm
       subst hv_
       unfold synd_Erasures.j1 at E
       refine nl ?_
       refine wc_cond z (fun c97=>?_) (fun c97=>?_)
       · have E:=iT c97 E
         refine rg (v_ z (mv (.int .i64 x75) z) (v_ z (sg (.int .i64 x75) z) (nl (wc_ret ?_))))
         exact (r_bk (r_thn (r_thn (r_bk (r_thn ⟨.inl z,.int .i64 x75,tk0 z ⟨resM z (rv_t rv_nil) z,k94,_,by omega,E,z,H⟩⟩)))))
       · have E:=iF c97 E
         refine wc_skip (n_bk (n_thn (wc_region (v_ z (r_add z z) (v_ z (mv (.int .i64 (i64.wrap (x75 + 1))) z) (wl_nil ?_))))))
         exact ⟨k94,by omega,_,_,by omega,E,upds_eq ⟨z,z,z,z,z,z,trivial⟩,H⟩
     · have E:=iF c88 E
       refine wc_exit (x_thn (x_thn (x_bk (n_thn (rg (v_ z (sg (.int .i64 (-1)) z) (nl (wc_ret ?_))))))))
       exact ⟨.inl z,.int .i64 (-1),tk0 z ⟨resM z (rv_t rv_nil) z,k84,_,by omega,E,z,H⟩⟩
   rintro _ w ⟨k65,x64,hk66,E,hv_,H⟩
   have hv_:=hv_.symm
   subst hv_
   unfold synd_Erasures.j0 at E
   refine v_ z (r_geq z z) (v_ z (sg (.bool (decide (0 ≤ x64))) z) (nl (wc_ret (⟨.inl z,.bool (decide (0 ≤ x64)),tk0 z ⟨resM z (rv_t rv_nil) z,(v_ z (sg (.bool (decide (0 ≤ x64))) z) (nl ?_))⟩⟩))))
   refine wc_cond z (fun c98=>?_) (fun c98=>?_)
   · have E:=iT c98 E
     refine wc_skip (n_thn (wc_condT2 z c98 (rg (v_ z (sg (.int .u16 13) z) (nl (wc_ret ?_))))))
     cases E
     exact (r_bk (r_thn ⟨.inl z,_,tk0 z ⟨resN z (rv_t rv_nil),z,H.sub0⟩⟩))
   · have E:=iF c98 E
     refine wc_region (v_ z (mv v1_ z) ?_)
     obtain ⟨x99,E100,E⟩:=bind_some E
     refine e_ z (y_callL e_en_128 z ((synd_twice.calls (H.arg (H.rd h1)) E100).mono ?_))
     rintro _ w ⟨rfl,K⟩
     have H:=H.app K
     refine ⟨_,z,(v_ z (sg (.bool x99) z) (nl ?_))⟩
     refine wc_cond z (fun c101=>?_) (fun c101=>?_)
     · have E:=iT c101 E
       refine rg (v_ z (sg (.int .u16 13) z) (nl (wc_ret ?_)))
       cases E
       exact (r_bk (r_thn ⟨.inl z,_,tk0 z ⟨resN z (rv_t rv_nil),z,H.sub0⟩⟩))
     · have E:=iF c101 E
       refine wc_skip (n_bk (n_thn (rg (v_ z (sg (.int .u16 0) z) (nl (wc_ret ?_))))))
       cases E
       exact ⟨.inl z,_,tk0 z ⟨resN z (rv_t rv_nil),z,H.sub0⟩⟩
def code_Has_1.f (a0 : Int) : Option (Bool):=some (!decide (a0 = 0))
theorem code_Has_1.calls {w0 : World} {a0 : Int} {r : Bool}  (E : code_Has_1.f a0 = some r) :
   Calls Tryz.prog 320 #[.int .u8 a0] w0 fun e w'=>e = .returned (.bool r) ∧ St no w0 w' []:=by
 have H:=St.nil no w0
 unfold code_Has_1.f at E
 refine calls_of_wc (N:=5) (args:=[.int .u8 a0]) Tryz.func320 z z (by simp) ?_
 refine rg (v_ z (sg (.bool false) z) (nl (rg (v_ z (mv (.int .u8 a0) z) (v_ z (r_neq z z) (v_ z (sg (.bool (!decide (a0 = 0))) z) (nl (wc_ret ?_))))))))
 cases E
 exact ⟨.inl z,_,tk0 z ⟨resN z (rv_t rv_nil),z,H.sub0⟩⟩
def code_Has.j0 (k : Nat) (x69 : Int) : Option (Bool):=some (!(decide (0 ≤ x69)))
def code_Has.l0 : Nat → List Int → Int → Option (Bool)
 | 0,_,_=>none
 | k + 1,x13,x79=>bif decide (x79 < (x13.length : Int)) then (grd (decide ((0 : Int) ≤ x79 ∧ x79 < (x13.length : Int))) ((code_Has_1.f (at_ 0 x13 x79)).bind fun x94=>bif x94 then (code_Has.j0 k x79) else (code_Has.l0 k x13 (i64.wrap (x79 + 1))))) else (code_Has.j0 k (-1))
def code_Has.f (k : Nat) (a1 : Int × Int × Int) (a2 : List Int) : Option (Bool):=(code_Right.f (a1.1,a1.2.1,a1.2.2)).bind fun x6=>bif !decide (x6 = 0) then (some false) else (bif !decide ((a2.length : Int) = a1.1) then (some false) else ((code_Roots.f k (a1.1,a1.2.1,a1.2.2)).bind fun x10=>(value_All.f k a2 x10).bind fun x13=>code_Has.l0 k x13 0))
theorem code_Has.calls {w0 : World} {k : Nat} {f0_ : FD} {a1 : Int × Int × Int} {a2 : List Int} {v2_ : Value} {r : Bool} (hf : (Rs.fld f0_).inv w0) (h2 : Rd (.of (.int .u8)) w0 (Ol (Rs.fld f0_).fp w0) v2_ a2) (E : code_Has.f k a1 a2 = some r) :
   Calls Tryz.prog 293 #[pt f0_.p,.agg #[.int .i64 a1.1,.int .i64 a1.2.1,.int .i64 a1.2.2],v2_] w0 fun e w'=>e = .returned (.bool r) ∧ St (Rs.fld f0_).fp w0 w' [.fld f0_]:=by
 have H:=St.start hf
 unfold code_Has.f at E
 refine calls_of_wc (N:=29) (args:=[pt f0_.p,.agg #[.int .i64 a1.1,.int .i64 a1.2.1,.int .i64 a1.2.2],v2_]) Tryz.func293 z z (by simp) ?_
 refine rg (e_ z (y_boxS (cs:=#[.int .i64 a1.1,.int .i64 a1.2.1,.int .i64 a1.2.2]) H z (fun b1 w H=>(v_ z (sg (.bool false) z) (nl (wc_seq (rg (v_ z (mv (pt f0_.p) z) (v_ z (r_peql0 Tryz.underlying79 z z) (v_ z (mv (.bool false) z) (on_ z z z (r_loadB (l:=[.int .i64 a1.1,.int .i64 a1.2.1,.int .i64 a1.2.2]) e_ag_24 (H.get 1 z) z z z) ?_)))))))))))
 obtain ⟨x6,E7,E⟩:=bind_some E
 refine wl_on z z z (y_callL e_en_38 z ((code_Right.calls E7).mono ?_))
 rintro _ w ⟨rfl,K⟩
 have H:=H.app K
 refine ⟨_,z,(on_ z z z (r_neq z z) (v_ z (pF (.bool (!decide (x6 = 0))) z z z) (v_ z (mv (.bool (!decide (x6 = 0))) z) ?_)))⟩
 rcases Bool.eq_false_or_eq_true (!decide (x6 = 0)) with c8 | c8
 · have E:=iT c8 E
   refine off_ c8 z z z (off_ c8 z z z (off_ c8 z z z (off_ c8 z z z (off_ c8 z z z (v_ z (pT (.bool true) z z c8) (nl (wc_condT z (rg (v_ z (sg (.bool false) z) (nl (wc_ret ?_)))))))))))
   cases E
   exact (r_thn ⟨.inl z,_,tk0 z ⟨resN z (rv_t rv_nil),z,H.sub1 0 z⟩⟩)
 · have E:=iF c8 E
   refine on_ c8 z z (mv v2_ z) (on_ c8 z z (r_lenR e_ul_22 (H.rd h2) z) (on_ c8 z z (r_faddr e_fa_24_0 z) (on_ c8 z z (r_load e_sc_3 z (blk_cell (H.get 1 z) z)) (on_ c8 z z (r_neq z z) (v_ z (pF (.bool (!decide ((a2.length : Int) = a1.1))) z z c8) (nl ?_))))))
   refine wc_cond z (fun c9=>?_) (fun c9=>?_)
   · have E:=iT c9 E
     refine rg (v_ z (sg (.bool false) z) (nl (wc_ret ?_)))
     cases E
     exact (r_thn ⟨.inl z,_,tk0 z ⟨resN z (rv_t rv_nil),z,H.sub1 0 z⟩⟩)
   · have E:=iF c9 E
     refine wc_skip (n_thn (rg (v_ z (mv (pt f0_.p) z) (v_ z (mv v2_ z) (v_ z (mv (pt f0_.p) z) (v_ z (r_loadB (l:=[.int .i64 a1.1,.int .i64 a1.2.1,.int .i64 a1.2.2]) e_ag_24 (H.get 1 z) z z z) ?_))))))
     obtain ⟨x10,E11,E⟩:=bind_some E
     refine e_ z (y_callL e_en_79 z ((code_Roots.calls (H.get 0 z) E11).mono ?_))
     rintro _ w ⟨v12,rfl,K⟩
     have H:=H.appX 0 z K
     refine ⟨_,z,?_⟩
     obtain ⟨x13,E14,E⟩:=bind_some E
     refine e_ z (y_callL e_en_78 z ((value_All.calls (H.get 0 z) (H.argX 0 z (H.rd h2)) (H.ownX 2 0 z z z (own_rd (H.get 2 z))) E14).mono ?_))
     rintro _ w ⟨v15,rfl,K⟩
     have H:=H.appX 0 z K
     refine ⟨_,z,(e_ z (y_in 9 [v15,.func (.func 320) #[] #[]] e_en_319 Tryz.func319 z z z z (rg (v_ z (sg (.bool false) z) (nl (rg (v_ z (mv v15 z) (v_ z (mv (.func (.func 320) #[] #[]) z) ?_))))))))⟩
     refine e_ z (y_J (fun v w=>∃ (k70 : Nat) (x69 : Int),k70 ≤ k ∧ code_Has.j0 k70 x69 = some r ∧ v = .int .i64 x69 ∧ St (Rs.fld f0_).fp w0 w [.fld f0_,.blk b1 #[.int .i64 a1.1,.int .i64 a1.2.1,.int .i64 a1.2.2] 24,.own (.int .u8) 5 v12 x10,.own (.int .u8) 5 v15 x13]) ?_ ?_)
     · refine (y_in 19 [v15,.func (.func 320) #[] #[]] e_en_343 Tryz.func343 z z z z (rg (v_ z (sg (.int .i64 0) z) (nl (wc_seq (rg (v_ z (mv v15 z) (v_ z (r_lenR e_ul_22 (own_rd (H.get 3 z)) z) (v_ z (mv (.int .i64 0) z) (nl (wc_block ?_)))))))))))
       refine wc_loop (fun kk t w=>∃ (x79 : Int) (t89 : Fr),kk ≤ k ∧ code_Has.l0 kk x13 x79 = some r ∧ t = upds t89 [(0,v15),(1,.func (.func 320) #[] #[]),(4,.int .i64 0),(7,.int .i64 (x13.length : Int)),(8,.int .i64 x79),(1000000,undef)] ∧ St (Rs.fld f0_).fp w0 w [.fld f0_,.blk b1 #[.int .i64 a1.1,.int .i64 a1.2.1,.int .i64 a1.2.2] 24,.own (.int .u8) 5 v12 x10,.own (.int .u8) 5 v15 x13]) k ?_ ?_
       · exact ⟨_,_,Nat.le_refl _,E,upds_eq ⟨z,z,z,z,z,z,trivial⟩,H⟩
       rintro kk t w ⟨x79,t89,hk88,E,rfl,H⟩
       obtain ⟨k87,rfl⟩ | rfl : (∃ k',kk = k' + 1) ∨ kk = 0:=by cases kk; exact .inr rfl; exact .inl ⟨_,rfl⟩
       rotate_left
       · cases E
       rw [code_Has.l0] at E
       refine rg (v_ z (r_lss z z) (nl (wc_seq ?_)))
       refine wc_cond z (fun c91=>?_) (fun c91=>?_)
       · have E:=iT c91 E
         refine wc_skip (n_thn (wc_seq (wc_block (rg (v_ z (mv (.int .i64 x79) z) (v_ z (sg (.int .i64 x79) z) (nl (rg (v_ z (mv (.func (.func 320) #[] #[]) z) (v_ z (mv v15 z) (v_ z (mv (.int .i64 x79) z) ?_)))))))))))
         obtain ⟨⟨g92,g93⟩,E⟩:=grd_some E
         refine v_ z (r_idx e_sl_22 (own_rd (H.get 3 z)) z z g92 g93) (v_ z (r_ldI e_sc_5 (own_rd (H.get 3 z)) g92 g93 z) ?_)
         obtain ⟨x94,E95,E⟩:=bind_some E
         refine e_ z (y_callvL z e_en_320 z ((code_Has_1.calls E95).mono ?_))
         rintro _ w ⟨rfl,K⟩
         have H:=H.app K
         refine ⟨_,z,(nl ?_)⟩
         refine wc_cond z (fun c96=>?_) (fun c96=>?_)
         · have E:=iT c96 E
           refine rg (v_ z (mv (.int .i64 x79) z) (v_ z (sg (.int .i64 x79) z) (nl (wc_ret ?_))))
           exact (r_bk (r_thn (r_thn (r_bk (r_thn ⟨.inl z,.int .i64 x79,tk0 z ⟨resM z (rv_t rv_nil) z,k87,_,by omega,E,z,H⟩⟩)))))
         · have E:=iF c96 E
           refine wc_skip (n_bk (n_thn (wc_region (v_ z (r_add z z) (v_ z (mv (.int .i64 (i64.wrap (x79 + 1))) z) (wl_nil ?_))))))
           exact ⟨k87,Nat.lt_succ_self _,_,_,Nat.le_of_succ_le hk88,E,upds_eq ⟨z,z,z,z,z,z,trivial⟩,H⟩
       · have E:=iF c91 E
         refine wc_exit (x_thn (x_thn (x_bk (n_thn (rg (v_ z (sg (.int .i64 (-1)) z) (nl (wc_ret ?_))))))))
         exact ⟨.inl z,.int .i64 (-1),tk0 z ⟨resM z (rv_t rv_nil) z,k87,_,by omega,E,z,H⟩⟩
     rintro _ w ⟨k70,x69,hk71,E,hv_,H⟩
     have hv_:=hv_.symm
     subst hv_
     unfold code_Has.j0 at E
     refine v_ z (r_geq z z) (v_ z (sg (.bool (decide (0 ≤ x69))) z) (nl (wc_ret (⟨.inl z,.bool (decide (0 ≤ x69)),tk0 z ⟨resM z (rv_t rv_nil) z,(v_ z (r_not z) (v_ z (sg (.bool (!(decide (0 ≤ x69)))) z) (nl (wc_ret ?_))))⟩⟩))))
     cases E
     exact ⟨.inl z,_,tk0 z ⟨resN z (rv_t rv_nil),z,H.sub1 0 z⟩⟩
def check_Fits.f (a0 : Int × Int × Int) (a1 : Int) (a2 : Int) : Option (Bool):=(code_Space.f (a0.1,a0.2.1,a0.2.2)).bind fun x2=>bif decide (x2 = 0) then (some false) else (bif decide (a1 < 0) then (some false) else (bif decide (a2 < 0) then (some false) else (bif decide (x2 < a1) then (some false) else (bif decide (x2 < a2) then (some false) else (some (decide (i64.wrap ((i64.wrap (2 * a1)) + a2) ≤ x2)))))))
theorem check_Fits.calls {w0 : World} {a0 : Int × Int × Int} {a1 : Int} {a2 : Int} {r : Bool}  (E : check_Fits.f a0 a1 a2 = some r) :
   Calls Tryz.prog 295 #[.agg #[.int .i64 a0.1,.int .i64 a0.2.1,.int .i64 a0.2.2],.int .i64 a1,.int .i64 a2] w0 fun e w'=>e = .returned (.bool r) ∧ St no w0 w' []:=by
 have H:=St.nil no w0
 unfold check_Fits.f at E
 refine calls_of_wc (N:=36) (args:=[.agg #[.int .i64 a0.1,.int .i64 a0.2.1,.int .i64 a0.2.2],.int .i64 a1,.int .i64 a2]) Tryz.func295 z z (by simp) ?_
 refine rg (e_ z (y_boxS (cs:=#[.int .i64 a0.1,.int .i64 a0.2.1,.int .i64 a0.2.2]) H z (fun b1 w H=>(v_ z (sg (.bool false) z) (nl (rg (v_ z (r_loadB (l:=[.int .i64 a0.1,.int .i64 a0.2.1,.int .i64 a0.2.2]) e_ag_24 (H.get 0 z) z z z) ?_)))))))
 obtain ⟨x2,E3,E⟩:=bind_some E
 refine e_ z (y_callL e_en_113 z ((code_Space.calls E3).mono ?_))
 rintro _ w ⟨rfl,K⟩
 have H:=H.app K
 refine ⟨_,z,(v_ z (sg (.int .i64 x2) z) (nl (wc_seq (rg (v_ z (mv (.int .i64 x2) z) (v_ z (r_eql z z) (v_ z (mv (.bool (decide (x2 = 0))) z) ?_)))))))⟩
 rcases Bool.eq_false_or_eq_true (decide (x2 = 0)) with c4 | c4
 · have E:=iT c4 E
   refine off_ c4 z z z (off_ c4 z z z (v_ z (pT (.bool true) z z c4) (v_ z (mv (.bool true) z) (off_ z z z z (off_ z z z z (v_ z (pT (.bool true) z z z) (v_ z (mv (.bool true) z) (off_ z z z z (off_ z z z z (off_ z z z z (v_ z (pT (.bool true) z z z) (v_ z (mv (.bool true) z) (off_ z z z z (off_ z z z z (off_ z z z z (v_ z (pT (.bool true) z z z) (nl (wc_condT z (rg (v_ z (sg (.bool false) z) (nl (wc_ret ?_))))))))))))))))))))))
   cases E
   exact (r_thn ⟨.inl z,_,tk0 z ⟨resN z (rv_t rv_nil),z,H.sub0⟩⟩)
 · have E:=iF c4 E
   refine on_ c4 z z (mv (.int .i64 a1) z) (on_ c4 z z (r_lss z z) (v_ z (pF (.bool (decide (a1 < 0))) z z c4) (v_ z (mv (.bool (decide (a1 < 0))) z) ?_)))
   rcases Bool.eq_false_or_eq_true (decide (a1 < 0)) with c5 | c5
   · have E:=iT c5 E
     refine off_ c5 z z z (off_ c5 z z z (v_ z (pT (.bool true) z z c5) (v_ z (mv (.bool true) z) (off_ z z z z (off_ z z z z (off_ z z z z (v_ z (pT (.bool true) z z z) (v_ z (mv (.bool true) z) (off_ z z z z (off_ z z z z (off_ z z z z (v_ z (pT (.bool true) z z z) (nl (wc_condT z (rg (v_ z (sg (.bool false) z) (nl (wc_ret ?_))))))))))))))))))
     cases E
     exact (r_thn ⟨.inl z,_,tk0 z ⟨resN z (rv_t rv_nil),z,H.sub0⟩⟩)
   · have E:=iF c5 E
     refine on_ c5 z z (mv (.int .i64 a2) z) (on_ c5 z z (r_lss z z) (v_ z (pF (.bool (decide (a2 < 0))) z z c5) (v_ z (mv (.bool (decide (a2 < 0))) z) ?_)))
     rcases Bool.eq_false_or_eq_true (decide (a2 < 0)) with c6 | c6
     · have E:=iT c6 E
       refine off_ c6 z z z (off_ c6 z z z (off_ c6 z z z (v_ z (pT (.bool true) z z c6) (v_ z (mv (.bool true) z) (off_ z z z z (off_ z z z z (off_ z z z z (v_ z (pT (.bool true) z z z) (nl (wc_condT z (rg (v_ z (sg (.bool false) z) (nl (wc_ret ?_))))))))))))))
       cases E
       exact (r_thn ⟨.inl z,_,tk0 z ⟨resN z (rv_t rv_nil),z,H.sub0⟩⟩)
     · have E:=iF c6 E
       refine on_ c6 z z (mv (.int .i64 a1) z) (on_ c6 z z (mv (.int .i64 x2) z) (on_ c6 z z (r_gtr z z) (v_ z (pF (.bool (decide (x2 < a1))) z z c6) (v_ z (mv (.bool (decide (x2 < a1))) z) ?_))))
       rcases Bool.eq_false_or_eq_true (decide (x2 < a1)) with c7 | c7
       · have E:=iT c7 E
         refine off_ c7 z z z (off_ c7 z z z (off_ c7 z z z (v_ z (pT (.bool true) z z c7) (nl (wc_condT z (rg (v_ z (sg (.bool false) z) (nl (wc_ret ?_)))))))))
         cases E
         exact (r_thn ⟨.inl z,_,tk0 z ⟨resN z (rv_t rv_nil),z,H.sub0⟩⟩)
       · have E:=iF c7 E
         refine on_ c7 z z (mv (.int .i64 a2) z) (on_ c7 z z (mv (.int .i64 x2) z) (on_ c7 z z (r_gtr z z) (v_ z (pF (.bool (decide (x2 < a2))) z z c7) (nl ?_))))
         refine wc_cond z (fun c8=>?_) (fun c8=>?_)
         · have E:=iT c8 E
           refine rg (v_ z (sg (.bool false) z) (nl (wc_ret ?_)))
           cases E
           exact (r_thn ⟨.inl z,_,tk0 z ⟨resN z (rv_t rv_nil),z,H.sub0⟩⟩)
         · have E:=iF c8 E
           refine wc_skip (n_thn (rg (v_ z (mv (.int .i64 a1) z) (v_ z (r_mul z z) (v_ z (mv (.int .i64 a2) z) (v_ z (r_add z z) (v_ z (mv (.int .i64 x2) z) (v_ z (r_leq z z) (v_ z (sg (.bool (decide (i64.wrap ((i64.wrap (2 * a1)) + a2) ≤ x2))) z) (nl (wc_ret ?_)))))))))))
           cases E
           exact ⟨.inl z,_,tk0 z ⟨resN z (rv_t rv_nil),z,H.sub0⟩⟩
def slices_Index.l0 : Nat → List Int → Int → Int → Option (Int)
 | 0,_,_,_=>none
 | k + 1,a0,a1,x6=>bif decide (x6 < (a0.length : Int)) then (grd (decide ((0 : Int) ≤ x6 ∧ x6 < (a0.length : Int))) (bif decide (a1 = at_ 0 a0 x6) then (some x6) else (slices_Index.l0 k a0 a1 (i64.wrap (x6 + 1))))) else (some (-1))
def slices_Index.f (k : Nat) (a0 : List Int) (a1 : Int) : Option (Int):=slices_Index.l0 k a0 a1 0
theorem slices_Index.calls {w0 : World} {k : Nat} {a0 : List Int} {a1 : Int} {v0_ : Value} {r : Int} (h0 : Rd (.of (.int .i64)) w0 (Ol no w0) v0_ a0) (E : slices_Index.f k a0 a1 = some r) :
   Calls Tryz.prog 241 #[v0_,.int .i64 a1] w0 fun e w'=>e = .returned (.int .i64 r) ∧ St no w0 w' []:=by
 have H:=St.nil no w0
 unfold slices_Index.f at E
 refine calls_of_wc (N:=19) (args:=[v0_,.int .i64 a1]) Tryz.func241 z z (by simp) ?_
 refine rg (v_ z (sg (.int .i64 0) z) (nl (wc_seq (rg (v_ z (mv v0_ z) (v_ z (r_lenR e_ul_45 (H.rd h0) z) (v_ z (mv (.int .i64 0) z) (nl (wc_block ?_)))))))))
 refine wc_loop (fun kk t w=>∃ (x6 : Int) (t14 : Fr),kk ≤ k ∧ slices_Index.l0 kk a0 a1 x6 = some r ∧ t = upds t14 [(0,v0_),(1,.int .i64 a1),(4,.int .i64 0),(7,.int .i64 (a0.length : Int)),(8,.int .i64 x6),(1000000,undef)] ∧ St no w0 w []) k ?_ ?_
 · exact ⟨_,_,Nat.le_refl _,E,upds_eq ⟨z,z,z,z,z,z,trivial⟩,H⟩
 rintro kk t w ⟨x6,t14,hk13,E,rfl,H⟩
 obtain ⟨k12,rfl⟩ | rfl : (∃ k',kk = k' + 1) ∨ kk = 0:=by cases kk; exact .inr rfl; exact .inl ⟨_,rfl⟩
 rotate_left
 · cases E
 rw [slices_Index.l0] at E
 refine rg (v_ z (r_lss z z) (nl (wc_seq ?_)))
 refine wc_cond z (fun c16=>?_) (fun c16=>?_)
 · have E:=iT c16 E
   refine wc_skip (n_thn (wc_seq (wc_block (rg (v_ z (mv (.int .i64 x6) z) (v_ z (sg (.int .i64 x6) z) (nl (rg (v_ z (mv (.int .i64 a1) z) (v_ z (mv v0_ z) (v_ z (mv (.int .i64 x6) z) ?_)))))))))))
   obtain ⟨⟨g17,g18⟩,E⟩:=grd_some E
   refine v_ z (r_idx e_sl_45 (H.rd h0) z z g17 g18) (v_ z (r_ldI e_sc_3 (H.rd h0) g17 g18 z) (v_ z (r_eql z z) (nl ?_)))
   refine wc_cond z (fun c19=>?_) (fun c19=>?_)
   · have E:=iT c19 E
     refine rg (v_ z (mv (.int .i64 x6) z) (v_ z (sg (.int .i64 x6) z) (nl (wc_ret ?_))))
     cases E
     exact (r_bk (r_thn (r_thn (r_bk (r_thn ⟨.inl z,_,tk0 z ⟨resN z (rv_t rv_nil),z,H.sub0⟩⟩)))))
   · have E:=iF c19 E
     refine wc_skip (n_bk (n_thn (wc_region (v_ z (r_add z z) (v_ z (mv (.int .i64 (i64.wrap (x6 + 1))) z) (wl_nil ?_))))))
     exact ⟨k12,Nat.lt_succ_self _,_,_,Nat.le_of_succ_le hk13,E,upds_eq ⟨z,z,z,z,z,z,trivial⟩,H⟩
 · have E:=iF c16 E
   refine wc_exit (x_thn (x_thn (x_bk (n_thn (rg (v_ z (sg (.int .i64 (-1)) z) (nl (wc_ret ?_))))))))
   cases E
   exact ⟨.inl z,_,tk0 z ⟨resN z (rv_t rv_nil),z,H.sub0⟩⟩
def slices_Contains.f (k : Nat) (a0 : List Int) (a1 : Int) : Option (Bool):=(slices_Index.f k a0 a1).bind fun x1=>some (decide (0 ≤ x1))
theorem slices_Contains.calls {w0 : World} {k : Nat} {a0 : List Int} {a1 : Int} {v0_ : Value} {r : Bool} (h0 : Rd (.of (.int .i64)) w0 (Ol no w0) v0_ a0) (E : slices_Contains.f k a0 a1 = some r) :
   Calls Tryz.prog 185 #[v0_,.int .i64 a1] w0 fun e w'=>e = .returned (.bool r) ∧ St no w0 w' []:=by
 have H:=St.nil no w0
 unfold slices_Contains.f at E
 refine calls_of_wc (N:=9) (args:=[v0_,.int .i64 a1]) Tryz.func185 z z (by simp) ?_
 refine rg (v_ z (sg (.bool false) z) (nl (rg (v_ z (mv v0_ z) (v_ z (mv (.int .i64 a1) z) ?_)))))
 obtain ⟨x1,E2,E⟩:=bind_some E
 refine e_ z (y_callL e_en_241 z ((slices_Index.calls (H.arg (H.rd h0)) E2).mono ?_))
 rintro _ w ⟨rfl,K⟩
 have H:=H.app K
 refine ⟨_,z,(v_ z (r_geq z z) (v_ z (sg (.bool (decide (0 ≤ x1))) z) (nl (wc_ret ?_))))⟩
 cases E
 exact ⟨.inl z,_,tk0 z ⟨resN z (rv_t rv_nil),z,H.sub0⟩⟩
def check_Wrong.l0 : Nat → List Int → List Int → List Int → Int → Int → Option (Int)
 | 0,_,_,_,_,_=>none
 | k + 1,a0,a1,a2,x41,x42=>bif decide (x42 < (((a1.take ((min2 (a0.length : Int) (a1.length : Int)).toNat)).drop 0).length : Int)) then (grd (decide ((0 : Int) ≤ x42 ∧ x42 < (((a1.take ((min2 (a0.length : Int) (a1.length : Int)).toNat)).drop 0).length : Int))) (grd (decide ((0 : Int) ≤ x42 ∧ x42 < (a0.length : Int))) (bif !decide (at_ 0 a0 x42 = at_ 0 ((a1.take ((min2 (a0.length : Int) (a1.length : Int)).toNat)).drop 0) x42) then ((slices_Contains.f k a2 x42).bind fun x63=>bif !x63 then (check_Wrong.l0 k a0 a1 a2 (i64.wrap (x41 + 1)) (i64.wrap (x42 + 1))) else (check_Wrong.l0 k a0 a1 a2 x41 (i64.wrap (x42 + 1)))) else (check_Wrong.l0 k a0 a1 a2 x41 (i64.wrap (x42 + 1)))))) else (some x41)
def check_Wrong.f (k : Nat) (a0 : List Int) (a1 : List Int) (a2 : List Int) : Option (Int):=grd (decide ((0 : Int) ≤ min2 (a0.length : Int) (a1.length : Int) ∧ min2 (a0.length : Int) (a1.length : Int) ≤ (a1.length : Int))) (check_Wrong.l0 k a0 a1 a2 0 0)
theorem check_Wrong.calls {w0 : World} {k : Nat} {a0 : List Int} {a1 : List Int} {a2 : List Int} {v0_ : Value} {v1_ : Value} {v2_ : Value} {r : Int} (h0 : Rd (.of (.int .u8)) w0 (Ol no w0) v0_ a0) (h1 : Rd (.of (.int .u8)) w0 (Ol no w0) v1_ a1) (h2 : Rd (.of (.int .i64)) w0 (Ol no w0) v2_ a2) (E : check_Wrong.f k a0 a1 a2 = some r) :
   Calls Tryz.prog 296 #[v0_,v1_,v2_] w0 fun e w'=>e = .returned (.int .i64 r) ∧ St no w0 w' []:=by
 have H:=St.nil no w0
 unfold check_Wrong.f at E
 refine calls_of_wc (N:=21) (args:=[v0_,v1_,v2_]) Tryz.func296 z z (by simp) ?_
 have H:=H.mk0
 refine rg ?_
 obtain ⟨p1,n2,c3,rfl⟩:=rd_form h2
 refine e_ z (y_boxS (cs:=#[(.slice p1 n2 c3)]) H z (fun b4 w H=>(v_ z (sg (.int .i64 0) z) (nl (rg (e_ z (y_allocS e_zr_3 H (fun b5 w H=>(s_ (y_storeB e_sz_3 H 2 z z z z z (fun w H=>(nl (wc_seq (rg (v_ z (mv v0_ z) (v_ z (mv v1_ z) (e_ z (y_in 6 [v0_,v1_] e_en_192 Tryz.func192 z z z z (rg ?_)))))))))))))))))))
 obtain ⟨p14,n15,c16,rfl⟩:=rd_form h0
 refine e_ z (y_boxS (cs:=#[(.slice p14 n15 c16)]) H z (fun b17 w H=>?_))
 obtain ⟨p18,n19,c20,rfl⟩:=rd_form h1
 refine e_ z (y_boxS (cs:=#[(.slice p18 n19 c20)]) H z (fun b21 w H=>?_))
 have H : St no w0 _ [.mks undef,.blk b4 #[(.slice p1 n2 c3)] 45,.blk b5 #[.int .i64 0] 3,.blk b17 #[(.slice p14 n15 c16)] 22,.blk b21 #[(.slice p18 n19 c20)] 22]:=H
 refine v_ z (sg (.nilFunc) z) (nl (rg (v_ z (r_mkf [pt b21,pt b17] z) (v_ z (sg (.func (.func 249) #[] #[pt b21,pt b17]) z) (nl (wc_ret (⟨.inl z,.func (.func 249) #[] #[pt b21,pt b17],tk0 z ⟨resM z (rv_t rv_nil) z,(nl (wc_block (wc_rf 33 [pt b21,pt b17] z Tryz.func249 z z z z z H 0 z z (fun v25 b22 o23 w hO24 H=>(rg (v_ z (r_load e_sc_22 z (blk_cell (H.get 4 z) z)) (v_ z (r_load e_sc_22 z (blk_cell (H.get 3 z) z)) (v_ z (r_lenR e_ul_22 (H.rd h0) z) (v_ z (r_load e_sc_22 z (blk_cell (H.get 4 z) z)) (v_ z (r_lenR e_ul_22 (H.rd h1) z) (v_ z (r_min z z) ?_)))))))))))⟩⟩)))))))
 obtain ⟨⟨g26,g27⟩,E⟩:=grd_some E
 have p29 : 0 ≤ (min2 (a0.length : Int) (a1.length : Int)).toNat:=by omega
 have p30 : (min2 (a0.length : Int) (a1.length : Int)).toNat ≤ a1.length:=by omega
 refine v_ z (r_slcHR e_sl_22 (H.rd h1) z z g26 g27) (v_ z (r_lenR e_ul_22 (Rd.slv (H.rd h1) p29 p30) z) (v_ z (mv (.int .i64 0) z) (nl (wc_block ?_))))
 refine wc_loop (fun kk t w=>∃ (x41 : Int) (x42 : Int) (t55 : Fr),kk ≤ k ∧ check_Wrong.l0 kk a0 a1 a2 x41 x42 = some r ∧ t = upds t55 [(0,.func (.yield b22) #[] #[]),(2,pt b17),(12,(slv (.slice p18 n19 c20) 0 ((min2 (a0.length : Int) (a1.length : Int)).toNat) 1)),(13,.int .i64 ((((a1.take ((min2 (a0.length : Int) (a1.length : Int)).toNat)).drop 0).length : Int))),(14,.int .i64 x42),(1000000,undef)] ∧ St no w0 w [.mks v25,.blk b4 #[(.slice p1 n2 c3)] 45,.blk b5 #[.int .i64 x41] 3,.blk b17 #[(.slice p14 n15 c16)] 22,.blk b21 #[(.slice p18 n19 c20)] 22,.obj b22 (.loop o23)]) k ?_ ?_
 · exact ⟨_,_,_,Nat.le_refl _,E,upds_eq ⟨z,z,z,z,z,z,trivial⟩,H⟩
 rintro kk t w ⟨x41,x42,t55,hk54,E,rfl,H⟩
 obtain ⟨k53,rfl⟩ | rfl : (∃ k',kk = k' + 1) ∨ kk = 0:=by cases kk; exact .inr rfl; exact .inl ⟨_,rfl⟩
 rotate_left
 · cases E
 rw [check_Wrong.l0] at E
 refine rg (v_ z (r_lss z z) (nl (wc_seq ?_)))
 refine wc_cond z (fun c57=>?_) (fun c57=>?_)
 · have E:=iT c57 E
   refine wc_skip (n_thn (wc_seq (wc_block (rg (v_ z (mv (.int .i64 x42) z) ?_)))))
   obtain ⟨⟨g58,g59⟩,E⟩:=grd_some E
   refine v_ z (r_idx e_sl_22 (Rd.slv (H.rd h1) p29 p30) z z g58 g59) (v_ z (r_ldI e_sc_5 (Rd.slv (H.rd h1) p29 p30) g58 g59 z) (v_ z (sg (.int .i64 x42) z) (v_ z (sg (.int .u8 (at_ 0 ((a1.take ((min2 (a0.length : Int) (a1.length : Int)).toNat)).drop 0) x42)) z) (nl (rg (v_ z (r_load e_sc_22 z (blk_cell (H.get 3 z) z)) (v_ z (mv (.int .i64 x42) z) ?_)))))))
   obtain ⟨⟨g60,g61⟩,E⟩:=grd_some E
   refine v_ z (r_idx e_sl_22 (H.rd h0) z z g60 g61) (v_ z (r_ldI e_sc_5 (H.rd h0) g60 g61 z) (v_ z (mv (.int .u8 (at_ 0 ((a1.take ((min2 (a0.length : Int) (a1.length : Int)).toNat)).drop 0) x42)) z) (v_ z (r_neq z z) (v_ z (mv (.bool (!decide (at_ 0 a0 x42 = at_ 0 ((a1.take ((min2 (a0.length : Int) (a1.length : Int)).toNat)).drop 0) x42))) z) ?_))))
   rcases Bool.eq_false_or_eq_true (!decide (at_ 0 a0 x42 = at_ 0 ((a1.take ((min2 (a0.length : Int) (a1.length : Int)).toNat)).drop 0) x42)) with c62 | c62
   · have E:=iT c62 E
     refine on_ c62 z z (mv (.func (.yield b22) #[] #[]) z) (on_ c62 z z (mv (.int .i64 x42) z) (on_ c62 z z (mv (.int .u8 (at_ 0 ((a1.take ((min2 (a0.length : Int) (a1.length : Int)).toNat)).drop 0) x42)) z) (wl_on z c62 z (y_yld [.int .i64 x42,.int .u8 (at_ 0 ((a1.take ((min2 (a0.length : Int) (a1.length : Int)).toNat)).drop 0) x42)] z z H 5 z hO24 z z (wc_region (v_ z (sg (.int .i64 x42) z) (wl_nil (yB H 5 z hO24 (fun w H=>(wc_block (rg (v_ z (r_load e_sc_45 z (blk_cell (H.get 1 z) z)) (v_ z (mv (.int .i64 x42) z) ?_)))))))))))))
     obtain ⟨x63,E64,E⟩:=bind_some E
     refine e_ z (y_callL e_en_185 z ((slices_Contains.calls (H.arg (H.rd h2)) E64).mono ?_))
     rintro _ w ⟨rfl,K⟩
     have H:=H.app K
     refine ⟨_,z,(v_ z (r_not z) (nl ?_))⟩
     refine wc_cond z (fun c65=>?_) (fun c65=>?_)
     · have E:=iT c65 E
       refine wc_region (v_ z (r_load e_sc_3 z (blk_cell (H.get 2 z) z)) (v_ z (r_add z z) (s_ (y_storeB e_sz_3 H 2 z z z z z (fun w H=>(wl_nil (n_bk (yN H 5 z hO24 (fun w H=>(on_ c62 z z (rv_eq (v':=.bool false) (r_not z) z) (v_ z (pT (.bool false) z z c62) (nl (wc_condF z (wc_skip (n_bk (n_thn (wc_region (v_ z (r_add z z) (v_ z (mv (.int .i64 (i64.wrap (x42 + 1))) z) (wl_nil ?_))))))))))))))))))))
       exact ⟨k53,Nat.lt_succ_self _,_,_,_,Nat.le_of_succ_le hk54,E,upds_eq ⟨z,z,z,z,z,z,trivial⟩,H⟩
     · have E:=iF c65 E
       refine wc_skip (n_bk (yN H 5 z hO24 (fun w H=>(on_ c62 z z (rv_eq (v':=.bool false) (r_not z) z) (v_ z (pT (.bool false) z z c62) (nl (wc_condF z (wc_skip (n_bk (n_thn (wc_region (v_ z (r_add z z) (v_ z (mv (.int .i64 (i64.wrap (x42 + 1))) z) (wl_nil ?_))))))))))))))
       exact ⟨k53,Nat.lt_succ_self _,_,_,_,Nat.le_of_succ_le hk54,E,upds_eq ⟨z,z,z,z,z,z,trivial⟩,H⟩
   · have E:=iF c62 E
     refine off_ c62 z z z (off_ c62 z z z (off_ c62 z z z (off_ c62 z z z (off_ c62 z z z (v_ z (pF (.bool false) z z c62) (nl (wc_condF z (wc_skip (n_bk (n_thn (wc_region (v_ z (r_add z z) (v_ z (mv (.int .i64 (i64.wrap (x42 + 1))) z) (wl_nil ?_))))))))))))))
     exact ⟨k53,Nat.lt_succ_self _,_,_,_,Nat.le_of_succ_le hk54,E,upds_eq ⟨z,z,z,z,z,z,trivial⟩,H⟩
 · have E:=iF c57 E
   refine wc_exit (x_thn (x_thn (x_bk (⟨.inr z,.tuple #[],tk0 z ⟨resM z rv_nil z,(el_n H 5 z hO24 (fun w H=>(n_bk (n_thn (rg (v_ z (r_load e_sc_3 z (blk_cell (H.get 2 z) z)) (v_ z (sg (.int .i64 x41) z) (nl (wc_ret ?_)))))))))⟩⟩))))
   cases E
   exact ⟨.inl z,_,tkA H 0 z z (fun w H=>⟨resN z (rv_t rv_nil),z,H.sub0⟩)⟩
def check_Accept.f (k : Nat) (a1 : Int × Int × Int) (a2 : List Int) (a3 : List Int) (a4 : List Int) : Option (Bool):=bif !(decide ((a2.length : Int) = a1.1)) then (some false) else ((synd_Erasures.f k (a1.1,a1.2.1,a1.2.2) a3).bind fun x18=>bif !(decide (x18 = 0)) then (some false) else ((code_Has.f k (a1.1,a1.2.1,a1.2.2) a4).bind fun x23=>bif !x23 then (some false) else ((check_Wrong.f k a2 a4 a3).bind fun x30=>(check_Fits.f (a1.1,a1.2.1,a1.2.2) x30 (a3.length : Int)).bind fun x32=>bif !x32 then (some false) else (some true))))
theorem check_Accept.calls {w0 : World} {k : Nat} {f0_ : FD} {a1 : Int × Int × Int} {a2 : List Int} {a3 : List Int} {a4 : List Int} {v2_ : Value} {v3_ : Value} {v4_ : Value} {r : Bool} (hf : (Rs.fld f0_).inv w0) (h2 : Rd (.of (.int .u8)) w0 (Ol (Rs.fld f0_).fp w0) v2_ a2) (h3 : Rd (.of (.int .i64)) w0 (Ol (Rs.fld f0_).fp w0) v3_ a3) (h4 : Rd (.of (.int .u8)) w0 (Ol (Rs.fld f0_).fp w0) v4_ a4) (E : check_Accept.f k a1 a2 a3 a4 = some r) :
   Calls Tryz.prog 247 #[pt f0_.p,.agg #[.int .i64 a1.1,.int .i64 a1.2.1,.int .i64 a1.2.2],v2_,v3_,v4_] w0 fun e w'=>e = .returned (.bool r) ∧ St (Rs.fld f0_).fp w0 w' [.fld f0_]:=by
 have H:=St.start hf
 unfold check_Accept.f at E
 refine calls_of_wc (N:=25) (args:=[pt f0_.p,.agg #[.int .i64 a1.1,.int .i64 a1.2.1,.int .i64 a1.2.2],v2_,v3_,v4_]) Tryz.func247 z z (by simp) ?_
 refine rg (e_ z (y_boxS (cs:=#[pt f0_.p]) H z (fun b1 w H=>(e_ z (y_boxS (cs:=#[.int .i64 a1.1,.int .i64 a1.2.1,.int .i64 a1.2.2]) H z (fun b2 w H=>?_))))))
 obtain ⟨p3,n4,c5,rfl⟩:=rd_form h2
 refine e_ z (y_boxS (cs:=#[(.slice p3 n4 c5)]) H z (fun b6 w H=>?_))
 obtain ⟨p7,n8,c9,rfl⟩:=rd_form h3
 refine e_ z (y_boxS (cs:=#[(.slice p7 n8 c9)]) H z (fun b10 w H=>?_))
 obtain ⟨p11,n12,c13,rfl⟩:=rd_form h4
 refine e_ z (y_boxS (cs:=#[(.slice p11 n12 c13)]) H z (fun b14 w H=>?_))
 have H : St (Rs.fld f0_).fp w0 _ [.fld f0_,.blk b1 #[pt f0_.p] 79,.blk b2 #[.int .i64 a1.1,.int .i64 a1.2.1,.int .i64 a1.2.2] 24,.blk b6 #[(.slice p3 n4 c5)] 22,.blk b10 #[(.slice p7 n8 c9)] 45,.blk b14 #[(.slice p11 n12 c13)] 22]:=H
 refine v_ z (sg (.bool false) z) (nl (wc_seq (rg (v_ z (r_mkf [pt b1,pt b6,pt b2] z) (v_ z (r_mkf [pt b2,pt b10] z) (v_ z (r_mkf [pt b1,pt b2,pt b14] z) (v_ z (r_mkf [pt b2,pt b6,pt b14,pt b10] z) (v_ z (r_buildA (cs:=[.func (.func 290) #[] #[pt b1,pt b6,pt b2],.func (.func 291) #[] #[pt b2,pt b10],.func (.func 292) #[] #[pt b1,pt b2,pt b14],.func (.func 294) #[] #[pt b2,pt b6,pt b14,pt b10]]) e_ba_381 z) (v_ z (mv (.int .i64 0) z) (nl (wc_block (wc_unroll (wu (rg (v_ z (rv_eq (v':=.bool true) (r_lss z z) z) (nl (wc_seq (wc_condT z (wc_skip (n_thn (wc_seq (wc_block (rg (v_ z (r_idxA e_ba_381 z z (by decide) (by decide) z) (v_ z (sg (.func (.func 290) #[] #[pt b1,pt b6,pt b2]) z) (nl (rg (v_ z (mv (.func (.func 290) #[] #[pt b1,pt b6,pt b2]) z) (e_ z (y_inv 13 [pt b1,pt b6,pt b2] z e_en_290 Tryz.func290 z z z z (rg (v_ z (sg (.bool false) z) (nl (rg (v_ z (r_load e_sc_79 z (blk_cell (H.get 1 z) z)) (v_ z (r_pneq0 Tryz.underlying79 z z) (v_ z (mv (.bool true) z) (on_ z z z (r_load e_sc_22 z (blk_cell (H.get 3 z) z)) (on_ z z z (r_lenR e_ul_22 (H.rd h2) z) (on_ z z z (r_faddr e_fa_24_0 z) (on_ z z z (r_load e_sc_3 z (blk_cell (H.get 2 z) z)) (on_ z z z (r_eql z z) ?_))))))))))))))))))))))))))))))))))))))))))
 refine v_ z (pT (.bool (decide ((a2.length : Int) = a1.1))) z z z) (v_ z (sg (.bool (decide ((a2.length : Int) = a1.1))) z) (nl (wc_ret (⟨.inl z,.bool (decide ((a2.length : Int) = a1.1)),tk0 z ⟨resM z (rv_t rv_nil) z,(v_ z (r_not z) (nl ?_))⟩⟩))))
 refine wc_cond z (fun c15=>?_) (fun c15=>?_)
 · have E:=iT c15 E
   refine rg (v_ z (sg (.bool false) z) (nl (wc_ret ?_)))
   cases E
   exact (r_bk (r_thn (r_thn (r_bk (r_thn ⟨.inl z,_,tk0 z ⟨resN z (rv_t rv_nil),z,H.sub1 0 z⟩⟩)))))
 · have E:=iF c15 E
   refine wc_skip (n_bk (n_thn (wc_region (v_ z (rv_eq (v':=.int .i64 1) (r_add z z) z) (v_ z (mv (.int .i64 1) z) (wl_nil (n_thn (wu (rg (v_ z (rv_eq (v':=.bool true) (r_lss z z) z) (nl (wc_seq (wc_condT z (wc_skip (n_thn (wc_seq (wc_block (rg (v_ z (r_idxA e_ba_381 z z (by decide) (by decide) z) (v_ z (sg (.func (.func 291) #[] #[pt b2,pt b10]) z) (nl (rg (v_ z (mv (.func (.func 291) #[] #[pt b2,pt b10]) z) (e_ z (y_inv 7 [pt b2,pt b10] z e_en_291 Tryz.func291 z z z z (rg (v_ z (sg (.bool false) z) (nl (rg (v_ z (r_loadB (l:=[.int .i64 a1.1,.int .i64 a1.2.1,.int .i64 a1.2.2]) e_ag_24 (H.get 2 z) z z z) (v_ z (r_load e_sc_45 z (blk_cell (H.get 4 z) z)) ?_)))))))))))))))))))))))))))))))
   obtain ⟨x18,E19,E⟩:=bind_some E
   refine e_ z (y_callL e_en_73 z ((synd_Erasures.calls (H.arg (H.rd h3)) E19).mono ?_))
   rintro _ w ⟨rfl,K⟩
   have H:=H.app K
   refine ⟨_,z,(v_ z (r_eql z z) (v_ z (sg (.bool (decide (x18 = 0))) z) (nl (wc_ret (⟨.inl z,.bool (decide (x18 = 0)),tk0 z ⟨resM z (rv_t rv_nil) z,(v_ z (r_not z) (nl ?_))⟩⟩)))))⟩
   refine wc_cond z (fun c20=>?_) (fun c20=>?_)
   · have E:=iT c20 E
     refine rg (v_ z (sg (.bool false) z) (nl (wc_ret ?_)))
     cases E
     exact (r_bk (r_thn (r_thn (r_bk (r_thn ⟨.inl z,_,tk0 z ⟨resN z (rv_t rv_nil),z,H.sub1 0 z⟩⟩)))))
   · have E:=iF c20 E
     refine wc_skip (n_bk (n_thn (wc_region (v_ z (rv_eq (v':=.int .i64 2) (r_add z z) z) (v_ z (mv (.int .i64 2) z) (wl_nil (n_thn (wu (rg (v_ z (rv_eq (v':=.bool true) (r_lss z z) z) (nl (wc_seq (wc_condT z (wc_skip (n_thn (wc_seq (wc_block (rg (v_ z (r_idxA e_ba_381 z z (by decide) (by decide) z) (v_ z (sg (.func (.func 292) #[] #[pt b1,pt b2,pt b14]) z) (nl (rg (v_ z (mv (.func (.func 292) #[] #[pt b1,pt b2,pt b14]) z) (e_ z (y_inv 8 [pt b1,pt b2,pt b14] z e_en_292 Tryz.func292 z z z z (rg (v_ z (sg (.bool false) z) (nl (rg (v_ z (r_load e_sc_79 z (blk_cell (H.get 1 z) z)) (v_ z (r_loadB (l:=[.int .i64 a1.1,.int .i64 a1.2.1,.int .i64 a1.2.2]) e_ag_24 (H.get 2 z) z z z) (v_ z (r_load e_sc_22 z (blk_cell (H.get 5 z) z)) ?_))))))))))))))))))))))))))))))))
     obtain ⟨x23,E24,E⟩:=bind_some E
     refine e_ z (y_callL e_en_293 z ((code_Has.calls (H.get 0 z) (H.argX 0 z (H.rd h4)) E24).mono ?_))
     rintro _ w ⟨rfl,K⟩
     have H:=H.appX 0 z K
     refine ⟨_,z,(v_ z (sg (.bool x23) z) (nl (wc_ret (⟨.inl z,.bool x23,tk0 z ⟨resM z (rv_t rv_nil) z,(v_ z (r_not z) (nl ?_))⟩⟩))))⟩
     refine wc_cond z (fun c25=>?_) (fun c25=>?_)
     · have E:=iT c25 E
       refine rg (v_ z (sg (.bool false) z) (nl (wc_ret ?_)))
       cases E
       exact (r_bk (r_thn (r_thn (r_bk (r_thn ⟨.inl z,_,tk0 z ⟨resN z (rv_t rv_nil),z,H.sub1 0 z⟩⟩)))))
     · have E:=iF c25 E
       refine wc_skip (n_bk (n_thn (wc_region (v_ z (rv_eq (v':=.int .i64 3) (r_add z z) z) (v_ z (mv (.int .i64 3) z) (wl_nil (n_thn (wu (rg (v_ z (rv_eq (v':=.bool true) (r_lss z z) z) (nl (wc_seq (wc_condT z (wc_skip (n_thn (wc_seq (wc_block (rg (v_ z (r_idxA e_ba_381 z z (by decide) (by decide) z) (v_ z (sg (.func (.func 294) #[] #[pt b2,pt b6,pt b14,pt b10]) z) (nl (rg (v_ z (mv (.func (.func 294) #[] #[pt b2,pt b6,pt b14,pt b10]) z) (e_ z (y_inv 13 [pt b2,pt b6,pt b14,pt b10] z e_en_294 Tryz.func294 z z z z (rg (v_ z (sg (.bool false) z) (nl (wc_seq (wc_drawnS (ds:=[]) e_mo H z z ?_))))))))))))))))))))))))))))))
       have H:=H.drew
       refine wt 0 (tf 1 9) z z z (by kernel_rfl) H (fun w H=>(r_loadB (l:=[.int .i64 a1.1,.int .i64 a1.2.1,.int .i64 a1.2.2]) e_ag_24 (H.get 2 z) z z z)) (wt 1 (tf 2 9) z z z (by kernel_rfl) H (fun w H=>(r_load e_sc_22 z (blk_cell (H.get 3 z) z))) (wt 2 (tf 3 9) z z z (by kernel_rfl) H (fun w H=>(r_load e_sc_22 z (blk_cell (H.get 5 z) z))) (wt 3 (tf 4 9) z z z (by kernel_rfl) H (fun w H=>(r_load e_sc_45 z (blk_cell (H.get 4 z) z))) (wt 5 #[true,true,true,true,false,true,false,false,false] z z z (by kernel_rfl) H (fun w H=>(r_load e_sc_45 z (blk_cell (H.get 4 z) z))) (wt 6 #[true,true,true,true,false,true,true,false,false] z z z (by kernel_rfl) H (fun w H=>(r_lenR e_ul_45 (H.rd h3) z)) ?_)))))
       obtain ⟨x30,E31,E⟩:=bind_some E
       refine wa_one (i:=4) (l':=(tf 7 9)) z z z (by kernel_rfl) (y_callL e_en_296 z ((check_Wrong.calls (H.arg (H.rd h2)) (H.arg (H.rd h4)) (H.arg (H.rd h3)) E31).mono ?_))
       rintro _ w ⟨rfl,K⟩
       have H:=H.app K
       refine ⟨_,z,⟨fun _=>H.sel [0,1,2,3,4,5] z z,?_⟩⟩
       obtain ⟨x32,E33,E⟩:=bind_some E
       refine wa_one (i:=7) (l':=(tf 8 9)) z z z (by kernel_rfl) (y_callL e_en_295 z ((check_Fits.calls E33).mono ?_))
       rintro _ w ⟨rfl,K⟩
       have H:=H.app K
       refine ⟨_,z,⟨fun _=>H.sel [0,1,2,3,4,5] z z,(wt 8 (tf 9 9) z z z (by kernel_rfl) (H.sel [0,1,2,3,4,5] z z) (fun w H=>(sg (.bool x32) z)) (wa_done (by kernel_rfl) (n_thn (wc_ret (⟨.inl z,.bool x32,tk0 z ⟨resM z (rv_t rv_nil) z,(v_ z (r_not z) (nl ?_))⟩⟩)))))⟩⟩
       refine wc_cond z (fun c34=>?_) (fun c34=>?_)
       · have E:=iT c34 E
         refine rg (v_ z (sg (.bool false) z) (nl (wc_ret ?_)))
         cases E
         exact (r_bk (r_thn (r_thn (r_bk (r_thn ⟨.inl z,_,tk0 z ⟨resN z (rv_t rv_nil),z,H.sub1 0 z⟩⟩)))))
       · have E:=iF c34 E
         refine wc_skip (n_bk (n_thn (wc_region (v_ z (rv_eq (v':=.int .i64 4) (r_add z z) z) (v_ z (mv (.int .i64 4) z) (wl_nil (n_thn (wu (rg (v_ z (rv_eq (v':=.bool false) (r_lss z z) z) (nl (wc_seq (wc_condF z (wc_exit (x_thn (x_thn (x_bk (n_thn (rg (v_ z (sg (.bool true) z) (nl (wc_ret ?_))))))))))))))))))))))
         cases E
         exact ⟨.inl z,_,tk0 z ⟨resN z (rv_t rv_nil),z,H.sub1 0 z⟩⟩
end Go.Proofs.YtkndgkbgbmhjoaaGreatDoor.Gw
