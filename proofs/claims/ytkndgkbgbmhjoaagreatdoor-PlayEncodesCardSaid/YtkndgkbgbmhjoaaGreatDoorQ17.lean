/- The card of the law that what a desk encodes is read back from what it tells: a part of its proof. The conditions are those of the statement. -/
import Derived.Test.YtkndgkbgbmhjoaaGreatDoorQ4
import Derived.Test.YtkndgkbgbmhjoaaGreatDoorQ3
import Derived.Test.YtkndgkbgbmhjoaaGreatDoorQ12
import Derived.Test.YtkndgkbgbmhjoaaGreatDoorQ13
import Derived.Test.YtkndgkbgbmhjoaaGreatDoorQ16
import Derived.Test.YtkndgkbgbmhjoaaGreatDoorQ15
import Derived.Test.YtkndgkbgbmhjoaaGreatDoorQ11
namespace Go.Proofs.YtkndgkbgbmhjoaaGreatDoor.Gw
open Go Go.RowKit
set_option linter.unusedVariables false
set_option linter.unusedSimpArgs false
set_option linter.unusedSectionVars false
variable [LibO]
set_option linter.unnecessarySimpa false
set_option maxRecDepth 100000
set_option maxHeartbeats 4000000
open Go.IntKind (i8 i16 i32 i64 u8 u16 u32 u64)
mutual
def gauss_Null.l0 : Nat → ((Int × Int × List Int) × List Int) → List (List (Int)) → Int → Option (List (List Int))
 | 0,_,_,_=>none
 | k + 1,x2,l112,x113=>bif decide (x113 < x2.1.2.1) then ((slices_Contains.f k x2.2 x113).bind fun x172=>bif x172 then (gauss_Null.l0 k x2 l112 (i64.wrap (x113 + 1))) else (grd (decide ((0 : Int) ≤ x2.1.2.1 ∧ x2.1.2.1 ≤ x2.1.2.1 ∧ x2.1.2.1 ≤ 140737488355328)) (grd (decide ((0 : Int) ≤ x113 ∧ x113 < ((List.replicate x2.1.2.1.toNat (0 : Int)).length : Int))) (gauss_Null.l1 k x2 l112 x113 ((List.replicate x2.1.2.1.toNat (0 : Int)).set x113.toNat 1) 0)))) else (some l112)
def gauss_Null.l1 : Nat → ((Int × Int × List Int) × List Int) → List (List (Int)) → Int → List (Int) → Int → Option (List (List Int))
 | 0,_,_,_,_,_=>none
 | k + 1,x2,l112,x113,l189,x190=>bif decide (x190 < (x2.2.length : Int)) then (grd (decide ((0 : Int) ≤ x190 ∧ x190 < (x2.2.length : Int))) (grd (decide ((0 : Int) ≤ i64.wrap ((i64.wrap (x190 * x2.1.2.1)) + x113) ∧ i64.wrap ((i64.wrap (x190 * x2.1.2.1)) + x113) < (x2.1.2.2.length : Int))) (grd (decide ((0 : Int) ≤ at_ 0 x2.2 x190 ∧ at_ 0 x2.2 x190 < (l189.length : Int))) (gauss_Null.l1 k x2 l112 x113 (l189.set (at_ 0 x2.2 x190).toNat (at_ 0 x2.1.2.2 (i64.wrap ((i64.wrap (x190 * x2.1.2.1)) + x113)))) (i64.wrap (x190 + 1)))))) else (grd (decide ((l112.length + 1) * 24 ≤ 140737488355328)) (gauss_Null.l0 k x2 (l112 ++ [l189]) (i64.wrap (x113 + 1))))
end
def gauss_Null.f (k : Nat) (a1 : Int × Int × List Int) : Option (List (List Int)):=(gauss_Echelon.f k (a1.1,a1.2.1,a1.2.2)).bind fun x2=>gauss_Null.l0 k x2 ([] : List (List (Int))) 0
theorem gauss_Null.calls {w0 : World} {k : Nat} {f0_ : FD} {a1 : Int × Int × List Int} {v1_2_ : Value} {r : List (List Int)} (hf : (Rs.fld f0_).inv w0) (h1_2 : Rd (.of (.int .u8)) w0 (Ol (Rs.fld f0_).fp w0) v1_2_ a1.2.2) (E : gauss_Null.f k a1 = some r) :
   Calls Tryz.prog 288 #[pt f0_.p,.agg #[.int .i64 a1.1,.int .i64 a1.2.1,v1_2_]] w0 fun e w'=>∃ (u0 : Value) (us0 : List Sv),e = .returned (u0) ∧ St (Rs.fld f0_).fp w0 w' [.fld f0_,.rows (.int .u8) 5 22 u0 us0 r]:=by
 have H:=St.start hf
 unfold gauss_Null.f at E
 refine calls_of_wc (N:=59) (args:=[pt f0_.p,.agg #[.int .i64 a1.1,.int .i64 a1.2.1,v1_2_]]) Tryz.func288 z z (by simp) ?_
 refine rg (e_ z (y_boxS (cs:=#[.int .i64 a1.1,.int .i64 a1.2.1,v1_2_]) H z (fun b1 w H=>(v_ z (sg (.slice none 0 0) z) (nl (rg (v_ z (mv (pt f0_.p) z) (v_ z (r_loadB (l:=[.int .i64 a1.1,.int .i64 a1.2.1,v1_2_]) e_ag_374 (H.get 1 z) z z z) ?_))))))))
 obtain ⟨x2,E3,E⟩:=bind_some E
 refine e_ z (y_callL e_en_318 z ((gauss_Echelon.calls (H.get 0 z) (H.argX 0 z (H.rd h1_2)) E3).mono ?_))
 rintro _ w ⟨v4,v5,rfl,K⟩
 have H:=H.appX 0 z K
 refine ⟨_,z,(v_ z (r_move) (v_ z (r_extract z z) (v_ z (r_extract z z) (e_ z (y_allocS e_zr_374 H (fun b6 w H=>?_))))))⟩
 obtain ⟨p7,n8,c9,rfl⟩:=own_form (H.get 2 z)
 refine s_ (y_storeBA e_sz_374 H 4 z z z z z z (fun w H=>(v_ z (sg v5 z) (nl (rg (v_ z (sg (.slice none 0 0) z) (nl (wc_seq (rg (v_ z (r_faddr e_fa_374_1 z) (v_ z (r_load e_sc_3 z (blk_cell (H.get 4 z) z)) (v_ z (mv (.int .i64 0) z) (nl (wc_block ?_))))))))))))))
 have H:=H.nilRows (.int .u8) 5 22
 refine wc_loop (fun kk t w=>∃ (l112 : List (List (Int))) (x113 : Int) (v110 : Value) (us111 : List Sv) (t166 : Fr),kk ≤ k ∧ gauss_Null.l0 kk x2 l112 x113 = some r ∧ t = upds t166 [(4,.slice none 0 0),(5,pt b6),(6,v5),(7,v110),(19,.int .i64 x2.1.2.1),(20,.int .i64 x113),(1000000,undef)] ∧ St (Rs.fld f0_).fp w0 w [.fld f0_,.blk b1 #[.int .i64 a1.1,.int .i64 a1.2.1,v1_2_] 374,.own (.int .u8) 5 (.slice p7 n8 c9) x2.1.2.2,.own (.int .i64) 3 v5 x2.2,.blk b6 #[.int .i64 x2.1.1,.int .i64 x2.1.2.1,(.slice p7 n8 c9)] 374,.rows (.int .u8) 5 22 v110 us111 l112]) k ?_ ?_
 · exact ⟨_,_,_,_,_,Nat.le_refl _,E,upds_eq ⟨z,z,z,z,z,z,z,trivial⟩,H⟩
 rintro kk t w ⟨l112,x113,v110,us111,t166,hk165,E,rfl,H⟩
 obtain ⟨k164,rfl⟩ | rfl : (∃ k',kk = k' + 1) ∨ kk = 0:=by cases kk; exact .inr rfl; exact .inl ⟨_,rfl⟩
 rotate_left
 · cases E
 rw [gauss_Null.l0] at E
 refine rg (v_ z (r_lss z z) (nl (wc_seq ?_)))
 refine wc_cond z (fun c168=>?_) (fun c168=>?_)
 · have E:=iT c168 E
   refine wc_skip (n_thn (wc_seq (wc_block (rg (v_ z (mv (.int .i64 x113) z) (v_ z (sg (.int .i64 x113) z) (nl (wc_seq (rg (v_ z (mv v5 z) (v_ z (mv (.int .i64 x113) z) ?_)))))))))))
   obtain ⟨x172,E173,E⟩:=bind_some E
   refine e_ z (y_callL e_en_185 z ((slices_Contains.calls (H.own 3 z (own_rd (H.get 3 z))) E173).mono ?_))
   rintro _ w ⟨rfl,K⟩
   have H:=H.app K
   refine ⟨_,z,(nl ?_)⟩
   refine wc_cond z (fun c174=>?_) (fun c174=>?_)
   · have E:=iT c174 E
     refine wc_exit (x_thn (x_bk (n_thn (wc_region (v_ z (r_add z z) (v_ z (mv (.int .i64 (i64.wrap (x113 + 1))) z) (wl_nil ?_)))))))
     exact ⟨k164,Nat.lt_succ_self _,_,_,_,_,_,Nat.le_of_succ_le hk165,E,upds_eq ⟨z,z,z,z,z,z,z,trivial⟩,H⟩
   · have E:=iF c174 E
     refine wc_skip (n_thn (rg (v_ z (r_faddr e_fa_374_1 z) (v_ z (r_load e_sc_3 z (blk_cell (H.get 4 z) z)) ?_))))
     obtain ⟨⟨g176,g177,g178⟩,E⟩:=grd_some E
     refine e_ z (y_make (e:=(.int .u8)) (z0:=0) e_sl_22 z H z z g176 g177 (by omega) (by omega) (fun v175 w H=>(v_ z (sg v175 z) (nl (rg (v_ z (mv v175 z) (v_ z (mv (.int .i64 x113) z) ?_)))))))
     obtain ⟨⟨g179,g180⟩,E⟩:=grd_some E
     refine v_ z (r_idx e_sl_22 (own_rd (H.get 6 z)) z z g179 g180) (s_ (y_storeI e_sz_5 H 6 z g179 g180 z z (fun w H=>(nl (wc_seq (rg (v_ z (mv v5 z) (v_ z (r_lenR e_ul_45 (own_rd (H.get 3 z)) z) (v_ z (mv (.int .i64 0) z) (nl (wc_block ?_)))))))))))
     refine wc_loop (fun kk t w=>∃ (l189 : List (Int)) (x190 : Int) (t201 : Fr),kk ≤ k164 ∧ gauss_Null.l1 kk x2 l112 x113 l189 x190 = some r ∧ t = upds t201 [(4,.slice none 0 0),(5,pt b6),(6,v5),(7,v110),(8,.int .i64 x113),(9,v175),(19,.int .i64 x2.1.2.1),(20,.int .i64 x113),(32,v5),(33,.int .i64 (x2.2.length : Int)),(34,.int .i64 x190),(1000000,undef)] ∧ St (Rs.fld f0_).fp w0 w [.fld f0_,.blk b1 #[.int .i64 a1.1,.int .i64 a1.2.1,v1_2_] 374,.own (.int .u8) 5 (.slice p7 n8 c9) x2.1.2.2,.own (.int .i64) 3 v5 x2.2,.blk b6 #[.int .i64 x2.1.1,.int .i64 x2.1.2.1,(.slice p7 n8 c9)] 374,.rows (.int .u8) 5 22 v110 us111 l112,.own (.int .u8) 5 v175 l189]) k164 ?_ ?_
     · exact ⟨_,_,_,Nat.le_refl _,E,upds_eq ⟨z,z,z,z,z,z,z,z,z,z,z,z,trivial⟩,H⟩
     rintro kk t w ⟨l189,x190,t201,hk200,E,rfl,H⟩
     obtain ⟨k199,rfl⟩ | rfl : (∃ k',kk = k' + 1) ∨ kk = 0:=by cases kk; exact .inr rfl; exact .inl ⟨_,rfl⟩
     rotate_left
     · cases E
     rw [gauss_Null.l1] at E
     refine rg (v_ z (r_lss z z) (nl (wc_seq ?_)))
     refine wc_cond z (fun c203=>?_) (fun c203=>?_)
     · have E:=iT c203 E
       refine wc_skip (n_thn (wc_seq (wc_block (rg (v_ z (mv (.int .i64 x190) z) ?_)))))
       obtain ⟨⟨g204,g205⟩,E⟩:=grd_some E
       refine v_ z (r_idx e_sl_45 (own_rd (H.get 3 z)) z z g204 g205) (v_ z (r_ldI e_sc_3 (own_rd (H.get 3 z)) g204 g205 z) (v_ z (sg (.int .i64 x190) z) (v_ z (sg (.int .i64 (at_ 0 x2.2 x190)) z) (nl (wc_region (v_ z (mv v175 z) (v_ z (mv (.int .i64 (at_ 0 x2.2 x190)) z) (v_ z (r_faddr e_fa_374_2 z) (v_ z (r_load e_sc_22 z (blk_cell (H.get 4 z) z)) (v_ z (mv (.int .i64 x190) z) (v_ z (r_faddr e_fa_374_1 z) (v_ z (r_load e_sc_3 z (blk_cell (H.get 4 z) z)) (v_ z (r_mul z z) (v_ z (mv (.int .i64 x113) z) (v_ z (r_add z z) ?_)))))))))))))))
       obtain ⟨⟨g206,g207⟩,E⟩:=grd_some E
       refine v_ z (r_idx e_sl_22 (own_rd (H.get 2 z)) z z g206 g207) (v_ z (r_ldI e_sc_5 (own_rd (H.get 2 z)) g206 g207 z) ?_)
       obtain ⟨⟨g208,g209⟩,E⟩:=grd_some E
       refine v_ z (r_idx e_sl_22 (own_rd (H.get 6 z)) z z g208 g209) (s_ (y_storeI e_sz_5 H 6 z g208 g209 z z (fun w H=>(wl_nil (n_bk (n_thn (wc_region (v_ z (r_add z z) (v_ z (mv (.int .i64 (i64.wrap (x190 + 1))) z) (wl_nil ?_))))))))))
       exact ⟨k199,Nat.lt_succ_self _,_,_,_,Nat.le_of_succ_le hk200,E,upds_eq ⟨z,z,z,z,z,z,z,z,z,z,z,z,trivial⟩,H⟩
     · have E:=iF c203 E
       refine wc_exit (x_thn (x_thn (x_bk (n_thn (wc_region (v_ z (mv v110 z) (v_ z (mv v175 z) ?_)))))))
       obtain ⟨p210,n211,c212,rfl⟩:=own_form (H.get 6 z)
       refine e_ z (y_bsB (l:=[(.slice p210 n211 c212)]) e_sl_154 H z (by decide) ⟨z,z,z,trivial⟩ (by decide) (fun b213 w H=>?_))
       obtain ⟨g216,E⟩:=grd_some E
       refine e_ z (y_appRow e_sl_154 H 5 6 z z z (lit_hdr (H.get 7 z)) z z g216 (by unfold maxLen; omega) (fun v214 us215 w H=>(v_ z (sg v214 z) (wl_nil (n_bk (n_thn (wc_region (v_ z (r_add z z) (v_ z (mv (.int .i64 (i64.wrap (x113 + 1))) z) (wl_nil ?_))))))))))
       exact ⟨k199,by omega,_,_,_,_,_,by omega,E,upds_eq ⟨z,z,z,z,z,z,z,trivial⟩,H.sel [0,1,2,3,4,5] z z⟩
 · have E:=iF c168 E
   refine wc_exit (x_thn (x_thn (x_bk (n_thn (rg (v_ z (mv v110 z) (v_ z (sg v110 z) (nl (wc_ret ?_)))))))))
   cases E
   exact ⟨.inl z,_,tk0 z ⟨resN z (rv_t rv_nil),_,_,z,H.sub2 0 5 z z z⟩⟩
def quot_Exact.f (k : Nat) (a1 : List Int) (a2 : List Int) : Option (List Int × Bool):=(quot_Div.f k a1 a2).bind fun x1=>bif !x1.2.2 then (some (([] : List (Int)),false)) else (bif decide (0 < (x1.2.1.length : Int)) then (some (([] : List (Int)),false)) else (some (x1.1,true)))
theorem quot_Exact.calls {w0 : World} {k : Nat} {f0_ : FD} {a1 : List Int} {a2 : List Int} {v1_ : Value} {v2_ : Value} {r : List Int × Bool} (hf : (Rs.fld f0_).inv w0) (h1 : Rd (.of (.int .u8)) w0 (Ol (Rs.fld f0_).fp w0) v1_ a1) (h2 : Rd (.of (.int .u8)) w0 (Ol (Rs.fld f0_).fp w0) v2_ a2) (E : quot_Exact.f k a1 a2 = some r) :
   Calls Tryz.prog 289 #[pt f0_.p,v1_,v2_] w0 fun e w'=>∃ (u0 : Value),e = .returned (.tuple #[u0,.bool r.2]) ∧ St (Rs.fld f0_).fp w0 w' [.fld f0_,.own (.int .u8) 5 u0 r.1]:=by
 have H:=St.start hf
 unfold quot_Exact.f at E
 refine calls_of_wc (N:=27) (args:=[pt f0_.p,v1_,v2_]) Tryz.func289 z z (by simp) ?_
 refine rg (v_ z (sg (.slice none 0 0) z) (v_ z (sg (.bool false) z) (nl (rg (v_ z (mv (pt f0_.p) z) (v_ z (mv v1_ z) (v_ z (mv v2_ z) ?_)))))))
 obtain ⟨x1,E2,E⟩:=bind_some E
 refine e_ z (y_callL e_en_172 z ((quot_Div.calls (H.get 0 z) (H.argX 0 z (H.rd h1)) (H.argX 0 z (H.rd h2)) E2).mono ?_))
 rintro _ w ⟨v3,v4,rfl,K⟩
 have H:=H.appX 0 z K
 refine ⟨_,z,(v_ z (r_move) (v_ z (r_extract z z) (v_ z (r_extract z z) (v_ z (r_extract z z) (v_ z (sg v3 z) (v_ z (sg v4 z) (v_ z (sg (.bool x1.2.2) z) (nl (wc_seq (rg (v_ z (mv (.bool x1.2.2) z) (v_ z (r_not z) (v_ z (mv (.bool (!x1.2.2)) z) ?_)))))))))))))⟩
 rcases Bool.eq_false_or_eq_true (!x1.2.2) with c5 | c5
 · have E:=iT c5 E
   refine off_ c5 z z z (off_ c5 z z z (off_ c5 z z z (v_ z (pT (.bool true) z z c5) (nl (wc_condT z (rg (v_ z (sg (.slice none 0 0) z) (v_ z (sg (.bool false) z) (nl (wc_ret ?_))))))))))
   have H:=H.nilOwn (.int .u8) 5
   cases E
   exact (r_thn ⟨.inl z,_,tk0 z ⟨resN z (rv_t (rv_t rv_nil)),_,z,H.sub2 0 3 z z z⟩⟩)
 · have E:=iF c5 E
   refine on_ c5 z z (mv v4 z) (on_ c5 z z (r_lenR e_ul_22 (own_rd (H.get 2 z)) z) (on_ c5 z z (r_gtr z z) (v_ z (pF (.bool (decide (0 < (x1.2.1.length : Int)))) z z c5) (nl ?_))))
   refine wc_cond z (fun c6=>?_) (fun c6=>?_)
   · have E:=iT c6 E
     refine rg (v_ z (sg (.slice none 0 0) z) (v_ z (sg (.bool false) z) (nl (wc_ret ?_))))
     have H:=H.nilOwn (.int .u8) 5
     cases E
     exact (r_thn ⟨.inl z,_,tk0 z ⟨resN z (rv_t (rv_t rv_nil)),_,z,H.sub2 0 3 z z z⟩⟩)
   · have E:=iF c6 E
     refine wc_skip (n_thn (rg (v_ z (mv v3 z) (v_ z (sg v3 z) (v_ z (sg (.bool true) z) (nl (wc_ret ?_)))))))
     cases E
     exact ⟨.inl z,_,tk0 z ⟨resN z (rv_t (rv_t rv_nil)),_,z,H.sub2 0 1 z z z⟩⟩
def welch_sought.j0 (k : Nat) (l244 : List (List (Int))) (x245 : Int) (x246 : Int) : Option ((List Int × Bool)):=(matrix_Of.f k l244).bind fun x485=>bif !x485.2 then (some (([] : List (Int)),false)) else ((gauss_Null.f k (x485.1.1,x485.1.2.1,x485.1.2.2)).bind fun x494=>bif decide ((x494.length : Int) = 0) then (some (([] : List (Int)),false)) else (grd (decide ((0 : Int) ≤ 0 ∧ 0 < (x494.length : Int))) (grd (decide ((0 : Int) ≤ i64.wrap (x245 + x246) ∧ i64.wrap (x245 + x246) ≤ ((at_ [] x494 0).length : Int))) (grd (decide ((0 : Int) ≤ 0 ∧ 0 < (x494.length : Int))) (grd (decide ((0 : Int) ≤ i64.wrap (x245 + x246) ∧ i64.wrap (x245 + x246) ≤ ((at_ [] x494 0).length : Int))) ((quot_Exact.f k (((at_ [] x494 0).take ((i64.wrap (x245 + x246)).toNat)).drop 0) (((at_ [] x494 0).take ((at_ [] x494 0).length)).drop ((i64.wrap (x245 + x246)).toNat))).bind fun x514=>some (x514.1,x514.2)))))))
def welch_sought.l0 : Nat → List Int → List Int → Int → Int → List (List (Int)) → Int → Option ((List Int × Bool))
 | 0,_,_,_,_,_,_=>none
 | k + 1,a1,a2,a3,a4,l366,x367=>bif decide (x367 < (a1.length : Int)) then (grd (decide ((0 : Int) ≤ x367 ∧ x367 < (a1.length : Int))) ((welch_powers.f k (at_ 0 a1 x367) (i64.wrap (a3 + a4))).bind fun x432=>grd (decide ((0 : Int) ≤ x367 ∧ x367 < (a2.length : Int))) ((welch_powers.f k (at_ 0 a1 x367) (i64.wrap (a4 + 1))).bind fun x462=>(field_Field_Each.f k (at_ 0 a2 x367) x462).bind fun x465=>(welch_row.f k ([x432,x465])).bind fun x475=>grd (decide ((l366.length + 1) * 24 ≤ 140737488355328)) (welch_sought.l0 k a1 a2 a3 a4 (l366 ++ [x475]) (i64.wrap (x367 + 1)))))) else (welch_sought.j0 k l366 a3 a4)
def welch_sought.f (k : Nat) (a1 : List Int) (a2 : List Int) (a3 : Int) (a4 : Int) : Option ((List Int × Bool)):=welch_sought.l0 k a1 a2 a3 a4 ([] : List (List (Int))) 0
theorem welch_sought.calls {w0 : World} {k : Nat} {f0_ : FD} {a1 : List Int} {a2 : List Int} {a3 : Int} {a4 : Int} {v1_ : Value} {v2_ : Value} {r : (List Int × Bool)} (hf : (Rs.fld f0_).inv w0) (h1 : Rd (.of (.int .u8)) w0 (Ol (Rs.fld f0_).fp w0) v1_ a1) (h2 : Rd (.of (.int .u8)) w0 (Ol (Rs.fld f0_).fp w0) v2_ a2) (E : welch_sought.f k a1 a2 a3 a4 = some r) :
   Calls Tryz.prog 245 #[pt f0_.p,v1_,v2_,.int .i64 a3,.int .i64 a4] w0 fun e w'=>∃ (u0_0 : Value),e = .returned (.agg #[u0_0,.bool r.2]) ∧ St (Rs.fld f0_).fp w0 w' [.fld f0_,.own (.int .u8) 5 u0_0 r.1]:=by
 have H:=St.start hf
 unfold welch_sought.f at E
 refine calls_of_wc (N:=87) (args:=[pt f0_.p,v1_,v2_,.int .i64 a3,.int .i64 a4]) Tryz.func245 z z (by simp) ?_
 refine rg (e_ z (y_allocS e_zr_333 H (fun b1 w H=>(nl (rg (v_ z (sg (.slice none 0 0) z) (nl ?_)))))))
 refine wc_seqJ (fun t w=>∃ (k248 : Nat) (l244 : List (List (Int))) (x245 : Int) (x246 : Int) (v242 : Value) (us243 : List Sv) (t247 : Fr),k248 ≤ k ∧ welch_sought.j0 k248 l244 x245 x246 = some r ∧ t = upds t247 [(0,pt f0_.p),(3,.int .i64 x245),(4,.int .i64 x246),(10,pt b1),(11,v242),(1000000,undef)] ∧ St (Rs.fld f0_).fp w0 w [.fld f0_,.blk b1 #[.slice none 0 0,.bool false] 333,.rows (.int .u8) 5 22 v242 us243 l244]) ?_ ?_
 · refine rg (v_ z (mv v1_ z) (v_ z (r_lenR e_ul_22 (H.rd h1) z) (v_ z (mv (.int .i64 0) z) (nl (wc_block ?_)))))
   have H:=H.nilRows (.int .u8) 5 22
   refine wc_loop (fun kk t w=>∃ (l366 : List (List (Int))) (x367 : Int) (v364 : Value) (us365 : List Sv) (t427 : Fr),kk ≤ k ∧ welch_sought.l0 kk a1 a2 a3 a4 l366 x367 = some r ∧ t = upds t427 [(0,pt f0_.p),(2,v2_),(3,.int .i64 a3),(4,.int .i64 a4),(10,pt b1),(11,v364),(19,v1_),(20,.int .i64 (a1.length : Int)),(21,.int .i64 x367),(1000000,undef)] ∧ St (Rs.fld f0_).fp w0 w [.fld f0_,.blk b1 #[.slice none 0 0,.bool false] 333,.rows (.int .u8) 5 22 v364 us365 l366]) k ?_ ?_
   · exact ⟨_,_,_,_,_,Nat.le_refl _,E,upds_eq ⟨z,z,z,z,z,z,z,z,z,z,trivial⟩,H⟩
   rintro kk t w ⟨l366,x367,v364,us365,t427,hk426,E,rfl,H⟩
   obtain ⟨k425,rfl⟩ | rfl : (∃ k',kk = k' + 1) ∨ kk = 0:=by cases kk; exact .inr rfl; exact .inl ⟨_,rfl⟩
   rotate_left
   · cases E
   rw [welch_sought.l0] at E
   refine rg (v_ z (r_lss z z) (nl (wc_seq ?_)))
   refine wc_cond z (fun c429=>?_) (fun c429=>?_)
   · have E:=iT c429 E
     refine wc_skip (n_thn (wc_seq (wc_block (rg (v_ z (mv (.int .i64 x367) z) ?_)))))
     obtain ⟨⟨g430,g431⟩,E⟩:=grd_some E
     refine v_ z (r_idx e_sl_22 (H.rd h1) z z g430 g431) (v_ z (r_ldI e_sc_5 (H.rd h1) g430 g431 z) (v_ z (sg (.int .i64 x367) z) (v_ z (sg (.int .u8 (at_ 0 a1 x367)) z) (nl (rg (v_ z (mv (pt f0_.p) z) (v_ z (mv (.int .u8 (at_ 0 a1 x367)) z) (v_ z (mv (.int .i64 a3) z) (v_ z (mv (.int .i64 a4) z) (v_ z (r_add z z) ?_))))))))))
     obtain ⟨x432,E433,E⟩:=bind_some E
     refine e_ z (y_callL e_en_285 z ((welch_powers.calls (H.get 0 z) E433).mono ?_))
     rintro _ w ⟨v434,rfl,K⟩
     have H:=H.appX 0 z K
     refine ⟨_,z,(v_ z (sg v434 z) (nl (wc_drawnW (ds:=[]) (fun w=>∃ (v' : Value) (us' : List Sv) (l' : List (List (Int))),St (Rs.fld f0_).fp w0 w [.fld f0_,.blk b1 #[.slice none 0 0,.bool false] 333,.rows (.int .u8) 5 22 v' us' l',.own (.int .u8) 5 v434 x432]) e_mo H z z ?_)))⟩
     have H:=H.drew
     refine wt 0 (tf 1 18) z z z (by kernel_rfl) ⟨_,_,_,H⟩ (fun w ⟨v',us',l',H⟩=>(mv v364 z)) (wt 1 (tf 2 18) z z z (by kernel_rfl) ⟨_,_,_,H⟩ (fun w ⟨v',us',l',H⟩=>(mv v434 z)) (wt 2 (tf 3 18) z z z (by kernel_rfl) ⟨_,_,_,H⟩ (fun w ⟨v',us',l',H⟩=>(mv (pt f0_.p) z)) (wt 3 (tf 4 18) z z z (by kernel_rfl) ⟨_,_,_,H⟩ (fun w ⟨v',us',l',H⟩=>(mv v2_ z)) (wt 4 (tf 5 18) z z z (by kernel_rfl) ⟨_,_,_,H⟩ (fun w ⟨v',us',l',H⟩=>(mv (.int .i64 x367) z)) ?_))))
     obtain ⟨⟨g460,g461⟩,E⟩:=grd_some E
     refine wt 5 (tf 6 18) z z z (by kernel_rfl) ⟨_,_,_,H⟩ (fun w ⟨v',us',l',H⟩=>(r_idx e_sl_22 (H.rd h2) z z g460 g461)) (wt 6 (tf 7 18) z z z (by kernel_rfl) ⟨_,_,_,H⟩ (fun w ⟨v',us',l',H⟩=>(r_ldI e_sc_5 (H.rd h2) g460 g461 z)) (wt 7 (tf 8 18) z z z (by kernel_rfl) ⟨_,_,_,H⟩ (fun w ⟨v',us',l',H⟩=>(mv (pt f0_.p) z)) (wt 8 (tf 9 18) z z z (by kernel_rfl) ⟨_,_,_,H⟩ (fun w ⟨v',us',l',H⟩=>(mv (.int .u8 (at_ 0 a1 x367)) z)) (wt 9 (tf 10 18) z z z (by kernel_rfl) ⟨_,_,_,H⟩ (fun w ⟨v',us',l',H⟩=>(mv (.int .i64 a4) z)) (wt 10 (tf 11 18) z z z (by kernel_rfl) ⟨_,_,_,H⟩ (fun w ⟨v',us',l',H⟩=>(r_add z z)) ?_)))))
     obtain ⟨x462,E463,E⟩:=bind_some E
     refine wa_one (i:=11) (l':=(tf 12 18)) z z z (by kernel_rfl) (y_callL e_en_285 z ((welch_powers.calls (H.get 0 z) E463).mono ?_))
     rintro _ w ⟨v464,rfl,K⟩
     have H:=H.appX 0 z K
     refine ⟨_,z,⟨fun _=>⟨_,_,_,H.sel [0,1,2,3] z z⟩,?_⟩⟩
     obtain ⟨x465,E466,E⟩:=bind_some E
     refine wa_one (i:=12) (l':=(tf 13 18)) z z z (by kernel_rfl) (y_callL e_en_223 z ((field_Field_Each.calls (H.get 0 z) (H.ownX 4 0 z z z (own_rd (H.get 4 z))) E466).mono ?_))
     rintro _ w ⟨v467,rfl,K⟩
     have H:=H.appX 0 z K
     refine ⟨_,z,⟨fun _=>⟨_,_,_,H.sel [0,1,2,3] z z⟩,?_⟩⟩
     obtain ⟨p468,n469,c470,rfl⟩:=own_form (H.get 3 z)
     obtain ⟨p471,n472,c473,rfl⟩:=own_form (H.get 5 z)
     refine wa_one (i:=13) (l':=(tf 14 18)) z z z (by kernel_rfl) (y_bsB (l:=[(.slice p468 n469 c470),(.slice p471 n472 c473)]) e_sl_154 H z (by decide) ⟨z,z,z,z,z,z,trivial⟩ (by decide) (fun b474 w H=>⟨fun _=>⟨_,_,_,H.sel [0,1,2,3] z z⟩,?_⟩))
     obtain ⟨x475,E476,E⟩:=bind_some E
     refine wa_one (i:=14) (l':=(tf 15 18)) z z z (by kernel_rfl) (y_callL e_en_286 z ((welch_row.calls (rd_rows (ls:=[x432,x465]) H 6 z z z ⟨(H.own 3 z (own_rd (H.get 3 z))),(H.own 5 z (own_rd (H.get 5 z))),trivial⟩) E476).mono ?_))
     rintro _ w ⟨v477,rfl,K⟩
     have H:=H.app K
     refine ⟨_,z,⟨fun _=>⟨_,_,_,H.sel [0,1,2,3] z z⟩,?_⟩⟩
     have H : St (Rs.fld f0_).fp w0 _ [.fld f0_,.blk b1 #[.slice none 0 0,.bool false] 333,.rows (.int .u8) 5 22 v364 us365 l366,.own (.int .u8) 5 (.slice p468 n469 c470) x432,.own (.int .u8) 5 v464 x462,.own (.int .u8) 5 (.slice p471 n472 c473) x465,.blk b474 #[(.slice p468 n469 c470),(.slice p471 n472 c473)] 22,.own (.int .u8) 5 v477 x475]:=H
     obtain ⟨p478,n479,c480,rfl⟩:=own_form (H.get 7 z)
     refine wa_one (i:=15) (l':=(tf 16 18)) z z z (by kernel_rfl) (y_bsB (l:=[(.slice p478 n479 c480)]) e_sl_154 H z (by decide) ⟨z,z,z,trivial⟩ (by decide) (fun b481 w H=>⟨fun _=>⟨_,_,_,H.sel [0,1,2,3] z z⟩,?_⟩))
     obtain ⟨g484,E⟩:=grd_some E
     refine wa_one (i:=16) (l':=(tf 17 18)) z z z (by kernel_rfl) (y_appRow e_sl_154 H 2 7 z z z (lit_hdr (H.get 8 z)) z z g484 (by unfold maxLen; omega) (fun v482 us483 w H=>⟨fun _=>⟨_,_,_,H.sel [0,1,2,3] z z⟩,(wt 17 (tf 18 18) z z z (by kernel_rfl) ⟨_,_,_,H.sel [0,1,2,3] z z⟩ (fun w ⟨v',us',l',H⟩=>(sg v482 z)) (wa_done (by kernel_rfl) (n_bk (n_thn (wc_region (v_ z (r_add z z) (v_ z (mv (.int .i64 (i64.wrap (x367 + 1))) z) (wl_nil ?_))))))))⟩))
     exact ⟨k425,Nat.lt_succ_self _,_,_,_,_,_,Nat.le_of_succ_le hk426,E,upds_eq ⟨z,z,z,z,z,z,z,z,z,z,trivial⟩,H.sel [0,1,2] z z⟩
   · have E:=iF c429 E
     refine wc_exit (x_thn (x_thn (x_bk ?_)))
     exact ⟨k425,_,_,_,_,_,_,by omega,E,upds_eq ⟨z,z,z,z,z,z,trivial⟩,H⟩
 rintro t w ⟨k248,l244,x245,x246,v242,us243,t247,hk249,E,rfl,H⟩
 unfold welch_sought.j0 at E
 refine rg (v_ z (mv v242 z) ?_)
 obtain ⟨x485,E486,E⟩:=bind_some E
 refine e_ z (y_callL e_en_287 z ((matrix_Of.calls (H.own 2 z (rows_rd (H.get 2 z))) E486).mono ?_))
 rintro _ w ⟨v487,rfl,K⟩
 have H:=H.app K
 refine ⟨_,z,(v_ z (r_move) (v_ z (r_extract z z) (v_ z (r_extract z z) (e_ z (y_allocS e_zr_374 H (fun b488 w H=>?_))))))⟩
 obtain ⟨p489,n490,c491,rfl⟩:=own_form (H.get 3 z)
 refine s_ (y_storeBA e_sz_374 H 4 z z z z z z (fun w H=>(v_ z (sg (.bool x485.2) z) (nl (wc_seq (rg (v_ z (mv (.bool x485.2) z) (v_ z (r_not z) (nl ?_)))))))))
 refine wc_cond z (fun c493=>?_) (fun c493=>?_)
 · have E:=iT c493 E
   refine rg (v_ z (r_build (cs:=[.slice none 0 0,.bool false]) e_bd_333 z) (s_ (y_storeBA e_sz_333 H 1 z z z z z z (fun w H=>(nl (wc_ret ?_))))))
   have H:=H.nilOwn (.int .u8) 5
   cases E
   exact (r_thn ⟨.inl z,_,tk0 z ⟨resN z (rv_c z e_ag_333 (blk_range (n:=2) (H.get 1 z) z) z rv_nil),_,z,H.sub2 0 5 z z z⟩⟩)
 · have E:=iF c493 E
   refine wc_skip (n_thn (rg (v_ z (mv (pt f0_.p) z) (v_ z (r_loadB (l:=[.int .i64 x485.1.1,.int .i64 x485.1.2.1,(.slice p489 n490 c491)]) e_ag_374 (H.get 4 z) z z z) ?_))))
   obtain ⟨x494,E495,E⟩:=bind_some E
   refine e_ z (y_callL e_en_288 z ((gauss_Null.calls (H.get 0 z) (H.ownX 3 0 z z z (own_rd (H.get 3 z))) E495).mono ?_))
   rintro _ w ⟨v496,us497,rfl,K⟩
   have H:=H.appX 0 z K
   refine ⟨_,z,(v_ z (sg v496 z) (nl (wc_seq (rg (v_ z (mv v496 z) (v_ z (r_lenR e_ul_154 (rows_rd (H.get 5 z)) z) (v_ z (r_eql z z) (nl ?_))))))))⟩
   refine wc_cond z (fun c499=>?_) (fun c499=>?_)
   · have E:=iT c499 E
     refine rg (v_ z (r_build (cs:=[.slice none 0 0,.bool false]) e_bd_333 z) (s_ (y_storeBA e_sz_333 H 1 z z z z z z (fun w H=>(nl (wc_ret ?_))))))
     have H:=H.nilOwn (.int .u8) 5
     cases E
     exact (r_thn ⟨.inl z,_,tk0 z ⟨resN z (rv_c z e_ag_333 (blk_range (n:=2) (H.get 1 z) z) z rv_nil),_,z,H.sub2 0 6 z z z⟩⟩)
   · have E:=iF c499 E
     refine wc_skip (n_thn (wc_seq (wc_drawnS (ds:=[]) e_mo H z z ?_)))
     have H:=H.drew
     refine wt 0 (tf 1 21) z z z (by kernel_rfl) H (fun w H=>(mv (pt f0_.p) z)) (wt 1 (tf 2 21) z z z (by kernel_rfl) H (fun w H=>(mv v496 z)) ?_)
     obtain ⟨⟨g500,g501⟩,E⟩:=grd_some E
     refine wt 2 (tf 3 21) z z z (by kernel_rfl) H (fun w H=>(r_idx e_sl_154 (rows_rd (H.get 5 z)) z z g500 g501)) (wt 3 (tf 4 21) z z z (by kernel_rfl) H (fun w H=>(r_ldRow e_sc_22 (H.get 5 z) g500 g501 z)) (wt 4 (tf 5 21) z z z (by kernel_rfl) H (fun w H=>(mv (.int .i64 x245) z)) (wt 5 (tf 6 21) z z z (by kernel_rfl) H (fun w H=>(mv (.int .i64 x246) z)) (wt 6 (tf 7 21) z z z (by kernel_rfl) H (fun w H=>(r_add z z)) ?_))))
     obtain ⟨⟨g502,g503⟩,E⟩:=grd_some E
     have p505 : 0 ≤ (i64.wrap (x245 + x246)).toNat:=by omega
     have p506 : (i64.wrap (x245 + x246)).toNat ≤ (at_ [] x494 0).length:=by omega
     refine wt 7 (tf 8 21) z z z (by kernel_rfl) H (fun w H=>(r_slcHR e_sl_22 (row_rd (H.get 5 z) g500 g501) z z g502 g503)) (wt 8 (tf 9 21) z z z (by kernel_rfl) H (fun w H=>(mv v496 z)) ?_)
     obtain ⟨⟨g507,g508⟩,E⟩:=grd_some E
     refine wt 9 (tf 10 21) z z z (by kernel_rfl) H (fun w H=>(r_idx e_sl_154 (rows_rd (H.get 5 z)) z z g507 g508)) (wt 10 (tf 11 21) z z z (by kernel_rfl) H (fun w H=>(r_ldRow e_sc_22 (H.get 5 z) g507 g508 z)) (wt 11 (tf 12 21) z z z (by kernel_rfl) H (fun w H=>(mv (.int .i64 x245) z)) (wt 12 (tf 13 21) z z z (by kernel_rfl) H (fun w H=>(mv (.int .i64 x246) z)) (wt 13 (tf 14 21) z z z (by kernel_rfl) H (fun w H=>(r_add z z)) ?_))))
     obtain ⟨⟨g509,g510⟩,E⟩:=grd_some E
     have p512 : (i64.wrap (x245 + x246)).toNat ≤ (at_ [] x494 0).length:=by omega
     have p513 : (at_ [] x494 0).length ≤ (at_ [] x494 0).length:=by omega
     refine wt 14 (tf 15 21) z z z (by kernel_rfl) H (fun w H=>(r_slcLR e_sl_22 (row_rd (H.get 5 z) g507 g508) z z g509 g510)) ?_
     obtain ⟨x514,E515,E⟩:=bind_some E
     refine wa_one (i:=15) (l':=(tf 16 21)) z z z (by kernel_rfl) (y_callL e_en_289 z ((quot_Exact.calls (H.get 0 z) (H.ownX 5 0 z z z (Rd.slv (row_rd (H.get 5 z) g500 g501) p505 p506)) (H.ownX 5 0 z z z (Rd.slv (row_rd (H.get 5 z) g507 g508) p512 p513)) E515).mono ?_))
     rintro _ w ⟨v516,rfl,K⟩
     have H:=H.appX 0 z K
     refine ⟨_,z,⟨fun _=>H.sel [0,1,2,3,4,5] z z,?_⟩⟩
     have H : St (Rs.fld f0_).fp w0 _ [.fld f0_,.blk b1 #[.slice none 0 0,.bool false] 333,.rows (.int .u8) 5 22 v242 us243 l244,.own (.int .u8) 5 (.slice p489 n490 c491) x485.1.2.2,.blk b488 #[.int .i64 x485.1.1,.int .i64 x485.1.2.1,(.slice p489 n490 c491)] 374,.rows (.int .u8) 5 22 v496 us497 x494,.own (.int .u8) 5 v516 x514.1]:=H
     refine wt 16 (tf 17 21) z z z (by kernel_rfl) (H.sel [0,1,2,3,4,5] z z) (fun w H=>(r_move)) (wt 17 (tf 18 21) z z z (by kernel_rfl) (H.sel [0,1,2,3,4,5] z z) (fun w H=>(r_extract z z)) (wt 18 (tf 19 21) z z z (by kernel_rfl) (H.sel [0,1,2,3,4,5] z z) (fun w H=>(r_extract z z)) (wa_oneV (i:=19) (l':=(tf 20 21)) z z z (by kernel_rfl) ((H.sel [0,1,2,3,4,5] z z)) (sg v516 z) (wt 20 (tf 21 21) z z z (by kernel_rfl) (H.sel [0,1,2,3,4,5] z z) (fun w H=>(sg (.bool x514.2) z)) (wa_done (by kernel_rfl) (n_thn (rg (v_ z (mv v516 z) (v_ z (mv (.bool x514.2) z) ?_)))))))))
     obtain ⟨p517,n518,c519,rfl⟩:=own_form (H.get 6 z)
     refine v_ z (r_build (cs:=[(.slice p517 n518 c519),.bool x514.2]) e_bd_333 z) (s_ (y_storeBA e_sz_333 H 1 z z z z z z (fun w H=>(nl (wc_ret ?_)))))
     cases E
     exact ⟨.inl z,_,tk0 z ⟨resN z (rv_c z e_ag_333 (blk_range (n:=2) (H.get 1 z) z) z rv_nil),_,z,H.sub2 0 6 z z z⟩⟩
def welch_Unlike.l0 : Nat → List Int → List Int → List Int → Int → Int → Option (Int)
 | 0,_,_,_,_,_=>none
 | k + 1,a1,a2,a3,x10,x11=>bif decide (x11 < min2 (a2.length : Int) (a3.length : Int)) then (grd (decide ((0 : Int) ≤ x11 ∧ x11 < (a2.length : Int))) (grd (decide ((0 : Int) ≤ x11 ∧ x11 < (a3.length : Int))) ((value_At.f k a1 (at_ 0 a2 x11)).bind fun x30=>bif !decide (x30 = at_ 0 a3 x11) then (welch_Unlike.l0 k a1 a2 a3 (i64.wrap (x10 + 1)) (i64.wrap (x11 + 1))) else (welch_Unlike.l0 k a1 a2 a3 x10 (i64.wrap (x11 + 1)))))) else (some x10)
def welch_Unlike.f (k : Nat) (a1 : List Int) (a2 : List Int) (a3 : List Int) : Option (Int):=welch_Unlike.l0 k a1 a2 a3 0 0
theorem welch_Unlike.calls {w0 : World} {k : Nat} {f0_ : FD} {a1 : List Int} {a2 : List Int} {a3 : List Int} {v1_ : Value} {v2_ : Value} {v3_ : Value} {r : Int} (hf : (Rs.fld f0_).inv w0) (h1 : Rd (.of (.int .u8)) w0 (Ol (Rs.fld f0_).fp w0) v1_ a1) (h2 : Rd (.of (.int .u8)) w0 (Ol (Rs.fld f0_).fp w0) v2_ a2) (h3 : Rd (.of (.int .u8)) w0 (Ol (Rs.fld f0_).fp w0) v3_ a3) (E : welch_Unlike.f k a1 a2 a3 = some r) :
   Calls Tryz.prog 246 #[pt f0_.p,v1_,v2_,v3_] w0 fun e w'=>e = .returned (.int .i64 r) ∧ St (Rs.fld f0_).fp w0 w' [.fld f0_]:=by
 have H:=St.start hf
 unfold welch_Unlike.f at E
 refine calls_of_wc (N:=37) (args:=[pt f0_.p,v1_,v2_,v3_]) Tryz.func246 z z (by simp) ?_
 refine rg (v_ z (sg (.int .i64 0) z) (nl (wc_seq (rg (v_ z (mv (pt f0_.p) z) (v_ z (r_peql0 Tryz.underlying79 z z) (nl (wc_condF z (wc_skip (n_thn (rg (v_ z (sg (.int .i64 0) z) (nl (wc_seq (rg (v_ z (mv v2_ z) (v_ z (r_lenR e_ul_22 (H.rd h2) z) (v_ z (mv v3_ z) (v_ z (r_lenR e_ul_22 (H.rd h3) z) (v_ z (r_min z z) (v_ z (mv (.int .i64 0) z) (nl (wc_block ?_)))))))))))))))))))))))
 refine wc_loop (fun kk t w=>∃ (x10 : Int) (x11 : Int) (t23 : Fr),kk ≤ k ∧ welch_Unlike.l0 kk a1 a2 a3 x10 x11 = some r ∧ t = upds t23 [(0,pt f0_.p),(1,v1_),(2,v2_),(3,v3_),(8,.int .i64 0),(9,.int .i64 x10),(17,.int .i64 (min2 (a2.length : Int) (a3.length : Int))),(18,.int .i64 x11),(1000000,undef)] ∧ St (Rs.fld f0_).fp w0 w [.fld f0_]) k ?_ ?_
 · exact ⟨_,_,_,Nat.le_refl _,E,upds_eq ⟨z,z,z,z,z,z,z,z,z,trivial⟩,H⟩
 rintro kk t w ⟨x10,x11,t23,hk22,E,rfl,H⟩
 obtain ⟨k21,rfl⟩ | rfl : (∃ k',kk = k' + 1) ∨ kk = 0:=by cases kk; exact .inr rfl; exact .inl ⟨_,rfl⟩
 rotate_left
 · cases E
 rw [welch_Unlike.l0] at E
 refine rg (v_ z (r_lss z z) (nl (wc_seq ?_)))
 refine wc_cond z (fun c25=>?_) (fun c25=>?_)
 · have E:=iT c25 E
   refine wc_skip (n_thn (wc_seq (wc_block (rg (v_ z (mv (.int .i64 x11) z) (v_ z (sg (.int .i64 x11) z) (nl (wc_seq (wc_drawnS (ds:=[]) e_mo H z z ?_)))))))))
   have H:=H.drew
   refine wt 0 (tf 1 12) z z z (by kernel_rfl) H (fun w H=>(mv (pt f0_.p) z)) (wt 1 (tf 2 12) z z z (by kernel_rfl) H (fun w H=>(mv v1_ z)) (wt 2 (tf 3 12) z z z (by kernel_rfl) H (fun w H=>(mv v2_ z)) (wt 3 (tf 4 12) z z z (by kernel_rfl) H (fun w H=>(mv (.int .i64 x11) z)) ?_)))
   obtain ⟨⟨g26,g27⟩,E⟩:=grd_some E
   refine wt 4 (tf 5 12) z z z (by kernel_rfl) H (fun w H=>(r_idx e_sl_22 (H.rd h2) z z g26 g27)) (wt 5 (tf 6 12) z z z (by kernel_rfl) H (fun w H=>(r_ldI e_sc_5 (H.rd h2) g26 g27 z)) (wt 7 #[true,true,true,true,true,true,false,true,false,false,false,false] z z z (by kernel_rfl) H (fun w H=>(mv v3_ z)) (wt 8 #[true,true,true,true,true,true,false,true,true,false,false,false] z z z (by kernel_rfl) H (fun w H=>(mv (.int .i64 x11) z)) ?_)))
   obtain ⟨⟨g28,g29⟩,E⟩:=grd_some E
   refine wt 9 #[true,true,true,true,true,true,false,true,true,true,false,false] z z z (by kernel_rfl) H (fun w H=>(r_idx e_sl_22 (H.rd h3) z z g28 g29)) (wt 10 #[true,true,true,true,true,true,false,true,true,true,true,false] z z z (by kernel_rfl) H (fun w H=>(r_ldI e_sc_5 (H.rd h3) g28 g29 z)) ?_)
   obtain ⟨x30,E31,E⟩:=bind_some E
   refine wa_one (i:=6) (l':=(tf 11 12)) z z z (by kernel_rfl) (y_callL e_en_138 z ((value_At.calls (H.get 0 z) (H.argX 0 z (H.rd h1)) E31).mono ?_))
   rintro _ w ⟨rfl,K⟩
   have H:=H.appX 0 z K
   refine ⟨_,z,⟨fun _=>H.sel [0] z z,(wt 11 (tf 12 12) z z z (by kernel_rfl) (H.sel [0] z z) (fun w H=>(r_neq z z)) (wa_done (by kernel_rfl) (n_thn ?_)))⟩⟩
   refine wc_cond z (fun c32=>?_) (fun c32=>?_)
   · have E:=iT c32 E
     refine wc_region (v_ z (mv (.int .i64 x10) z) (v_ z (r_add z z) (v_ z (sg (.int .i64 (i64.wrap (x10 + 1))) z) (wl_nil (n_bk (n_thn (wc_region (v_ z (r_add z z) (v_ z (mv (.int .i64 (i64.wrap (x11 + 1))) z) (wl_nil ?_))))))))))
     exact ⟨k21,Nat.lt_succ_self _,_,_,_,Nat.le_of_succ_le hk22,E,upds_eq ⟨z,z,z,z,z,z,z,z,z,trivial⟩,H⟩
   · have E:=iF c32 E
     refine wc_skip (n_bk (n_thn (wc_region (v_ z (r_add z z) (v_ z (mv (.int .i64 (i64.wrap (x11 + 1))) z) (wl_nil ?_))))))
     exact ⟨k21,Nat.lt_succ_self _,_,_,_,Nat.le_of_succ_le hk22,E,upds_eq ⟨z,z,z,z,z,z,z,z,z,trivial⟩,H⟩
 · have E:=iF c25 E
   refine wc_exit (x_thn (x_thn (x_bk (n_thn (rg (v_ z (mv (.int .i64 x10) z) (v_ z (sg (.int .i64 x10) z) (nl (wc_ret ?_)))))))))
   cases E
   exact ⟨.inl z,_,tk0 z ⟨resN z (rv_t rv_nil),z,H.sub1 0 z⟩⟩
def welch_Fit.j0 (l0r : List Int → List Int → Int → List (Int) → Int → Option (List Int × Bool)) (k : Nat) (a1 : List Int) (a2 : List Int) (a3 : Int) (x1 : Bool) : Option (List Int × Bool):=bif x1 then (some (([] : List (Int)),false)) else (l0r a1 a2 a3 ([] : List (Int)) 0)
def welch_Fit.j1 (k : Nat) (a1 : List Int) (a2 : List Int) (a3 : Int) (l1 : List (Int)) : Option (List Int × Bool):=bif decide ((l1.length : Int) < (a1.length : Int)) then (some (([] : List (Int)),false)) else ((welch_sought.f k a1 a2 a3 (i64.wrap (Int.tdiv (i64.wrap ((a1.length : Int) - a3)) 2))).bind fun x1=>bif !x1.2 then (some (([] : List (Int)),false)) else ((poly_Deg.f k x1.1).bind fun x2=>bif decide (a3 ≤ x2) then (some (([] : List (Int)),false)) else ((welch_Unlike.f k x1.1 a1 a2).bind fun x3=>bif decide (i64.wrap (Int.tdiv (i64.wrap ((a1.length : Int) - a3)) 2) < x3) then (some (([] : List (Int)),false)) else (some (x1.1,true)))))
mutual
def welch_Fit.l0 : Nat → List Int → List Int → Int → List (Int) → Int → Option (List Int × Bool)
 | 0,_,_,_,_,_=>none
 | k + 1,a1,a2,a3,l1,x1=>bif decide (x1 < (a1.length : Int)) then (grd (decide ((0 : Int) ≤ x1 ∧ x1 < (a1.length : Int))) (grd (decide ((l1.length + ([at_ 0 a1 x1]).length) * 1 ≤ 140737488355328)) (welch_Fit.l0 k a1 a2 a3 (l1 ++ ([at_ 0 a1 x1])) (i64.wrap (x1 + 1))))) else ((math_bits_Len.f (u64.wrap (l1.length : Int))).bind fun x2=>welch_Fit.l1 k a1 a2 a3 l1 x2)
def welch_Fit.l1 : Nat → List Int → List Int → Int → List (Int) → Int → Option (List Int × Bool)
 | 0,_,_,_,_,_=>none
 | k + 1,a1,a2,a3,l1,x2=>bif decide (i64.wrap ((l1.length : Int) - 0) ≤ 12) then (welch_Fit.l2 k a1 a2 a3 l1 l1 1) else (bif decide (x2 = 0) then (none) else (none))
def welch_Fit.l2 : Nat → List Int → List Int → Int → List (Int) → List (Int) → Int → Option (List Int × Bool)
 | 0,_,_,_,_,_,_=>none
 | k + 1,a1,a2,a3,l1,l2,x3=>bif decide (x3 < (l1.length : Int)) then (welch_Fit.l3 k a1 a2 a3 l1 x3 l2 x3) else (bif decide ((l2.length : Int) < 2) then (welch_Fit.j1 k a1 a2 a3 l2) else (welch_Fit.l4 k a1 a2 a3 l2 1))
def welch_Fit.l3 : Nat → List Int → List Int → Int → List (Int) → Int → List (Int) → Int → Option (List Int × Bool)
 | 0,_,_,_,_,_,_,_=>none
 | k + 1,a1,a2,a3,l1,x3,l3,x4=>bif decide (0 < x4) then (grd (decide ((0 : Int) ≤ x4 ∧ x4 < (l3.length : Int))) (grd (decide ((0 : Int) ≤ i64.wrap (x4 - 1) ∧ i64.wrap (x4 - 1) < (l3.length : Int))) ((cmp_Less_337.f (at_ 0 l3 x4) (at_ 0 l3 (i64.wrap (x4 - 1)))).bind fun x5=>bif x5 then (grd (decide ((0 : Int) ≤ i64.wrap (x4 - 1) ∧ i64.wrap (x4 - 1) < (l3.length : Int))) (grd (decide ((0 : Int) ≤ x4 ∧ x4 < (l3.length : Int))) (grd (decide ((0 : Int) ≤ x4 ∧ x4 < (l3.length : Int))) (grd (decide ((0 : Int) ≤ i64.wrap (x4 - 1) ∧ i64.wrap (x4 - 1) < ((l3.set x4.toNat (at_ 0 l3 (i64.wrap (x4 - 1)))).length : Int))) (welch_Fit.l3 k a1 a2 a3 l1 x3 ((l3.set x4.toNat (at_ 0 l3 (i64.wrap (x4 - 1)))).set (i64.wrap (x4 - 1)).toNat (at_ 0 l3 x4)) (i64.wrap (x4 - 1))))))) else (welch_Fit.l2 k a1 a2 a3 l1 l3 (i64.wrap (x3 + 1)))))) else (welch_Fit.l2 k a1 a2 a3 l1 l3 (i64.wrap (x3 + 1)))
def welch_Fit.l4 : Nat → List Int → List Int → Int → List (Int) → Int → Option (List Int × Bool)
 | 0,_,_,_,_,_=>none
 | k + 1,a1,a2,a3,l2,x6=>bif decide (x6 < (l2.length : Int)) then (grd (decide ((0 : Int) ≤ x6 ∧ x6 < (l2.length : Int))) (grd (decide ((0 : Int) ≤ i64.wrap (x6 - 1) ∧ i64.wrap (x6 - 1) < (l2.length : Int))) (bif decide (at_ 0 l2 x6 = at_ 0 l2 (i64.wrap (x6 - 1))) then (none) else (welch_Fit.l4 k a1 a2 a3 l2 (i64.wrap (x6 + 1)))))) else (welch_Fit.j1 k a1 a2 a3 l2)
end
def welch_Fit.f (k : Nat) (a1 : List Int) (a2 : List Int) (a3 : Int) : Option (List Int × Bool):=bif decide (a3 < 1) then (welch_Fit.j0 (welch_Fit.l0 k) k a1 a2 a3 (decide (a3 < 1))) else (bif decide ((a1.length : Int) < a3) then (welch_Fit.j0 (welch_Fit.l0 k) k a1 a2 a3 (decide ((a1.length : Int) < a3))) else (bif !decide ((a2.length : Int) = (a1.length : Int)) then (welch_Fit.j0 (welch_Fit.l0 k) k a1 a2 a3 (!decide ((a2.length : Int) = (a1.length : Int)))) else (welch_Fit.j0 (welch_Fit.l0 k) k a1 a2 a3 (decide (255 < (a1.length : Int))))))
theorem welch_Fit.calls {w0 : World} {k : Nat} {f0_ : FD} {a1 : List Int} {a2 : List Int} {a3 : Int} {v1_ : Value} {v2_ : Value} {r : List Int × Bool} (hf : (Rs.fld f0_).inv w0) (h1 : Rd (.of (.int .u8)) w0 (Ol (Rs.fld f0_).fp w0) v1_ a1) (h2 : Rd (.of (.int .u8)) w0 (Ol (Rs.fld f0_).fp w0) v2_ a2) (E : welch_Fit.f k a1 a2 a3 = some r) :
   Calls Tryz.prog 187 #[pt f0_.p,v1_,v2_,.int .i64 a3] w0 fun e w'=>∃ (u0 : Value),e = .returned (.tuple #[u0,.bool r.2]) ∧ St (Rs.fld f0_).fp w0 w' [.fld f0_,.own (.int .u8) 5 u0 r.1]:=by
 have H:=St.start hf
 unfold welch_Fit.f at E
 refine calls_of_wc (N:=71) (args:=[pt f0_.p,v1_,v2_,.int .i64 a3]) Tryz.func187 z z (by simp) ?_
 refine rg (v_ z (sg (.slice none 0 0) z) (v_ z (sg (.bool false) z) (nl (wc_seq (wc_block ?_)))))
 refine wc_seqJ (fun t w=>∃ (k1 : Nat) (x1 : Bool) (t1 : Fr),k1 ≤ k ∧ welch_Fit.j0 (welch_Fit.l0 k1) k1 a1 a2 a3 x1 = some r ∧ t = upds t1 [(0,pt f0_.p),(1,v1_),(2,v2_),(3,.int .i64 a3),(8,.slice none 0 0),(9,.bool false),(12,.bool x1),(1000000,undef)] ∧ St (Rs.fld f0_).fp w0 w [.fld f0_]) ?_ ?_
 · refine rg (v_ z (mv (pt f0_.p) z) (v_ z (r_peql0 Tryz.underlying79 z z) (v_ z (sg (.bool false) z) (nl (wc_condF z (rg (v_ z (mv (.int .i64 a3) z) (v_ z (r_lss z z) (v_ z (sg (.bool (decide (a3 < 1))) z) (nl ?_))))))))))
   refine wc_cond z (fun c1=>?_) (fun c1=>?_)
   · have E:=iT c1 E
     refine wc_skip ?_
     exact ⟨k,_,_,Nat.le_refl _,E,upds_eq ⟨z,z,z,z,z,z,z,z,trivial⟩,H⟩
   · have E:=iF c1 E
     refine rg (v_ z (mv (.int .i64 a3) z) (v_ z (mv v1_ z) (v_ z (r_lenR e_ul_22 (H.rd h1) z) (v_ z (r_gtr z z) (v_ z (sg (.bool (decide ((a1.length : Int) < a3))) z) (nl ?_))))))
     refine wc_cond z (fun c2=>?_) (fun c2=>?_)
     · have E:=iT c2 E
       refine wc_skip ?_
       exact ⟨k,_,_,Nat.le_refl _,E,upds_eq ⟨z,z,z,z,z,z,z,z,trivial⟩,H⟩
     · have E:=iF c2 E
       refine rg (v_ z (mv v2_ z) (v_ z (r_lenR e_ul_22 (H.rd h2) z) (v_ z (mv v1_ z) (v_ z (r_lenR e_ul_22 (H.rd h1) z) (v_ z (r_neq z z) (v_ z (sg (.bool (!decide ((a2.length : Int) = (a1.length : Int)))) z) (nl ?_)))))))
       refine wc_cond z (fun c3=>?_) (fun c3=>?_)
       · have E:=iT c3 E
         refine wc_skip ?_
         exact ⟨k,_,_,Nat.le_refl _,E,upds_eq ⟨z,z,z,z,z,z,z,z,trivial⟩,H⟩
       · have E:=iF c3 E
         refine wc_region (v_ z (mv v1_ z) (v_ z (r_lenR e_ul_22 (H.rd h1) z) (v_ z (r_gtr z z) (v_ z (sg (.bool (decide (255 < (a1.length : Int)))) z) (wl_nil ?_)))))
         exact ⟨k,_,_,Nat.le_refl _,E,upds_eq ⟨z,z,z,z,z,z,z,z,trivial⟩,H⟩
 rintro t w ⟨k1,x1,t1,hk1,E,rfl,H⟩
 unfold welch_Fit.j0 at E
 refine wc_cond z (fun c4=>?_) (fun c4=>?_)
 · have E:=iT c4 E
   refine rg (v_ z (sg (.slice none 0 0) z) (v_ z (sg (.bool false) z) (nl (wc_ret ?_))))
   have H:=H.nilOwn (.int .u8) 5
   cases E
   exact (r_bk (r_thn ⟨.inl z,_,tk0 z ⟨resN z (rv_t (rv_t rv_nil)),_,z,H.sub2 0 1 z z z⟩⟩))
 · have E:=iF c4 E
   refine rg (v_ z (mv v1_ z) (e_ z (y_in 4 [v1_] e_en_244 Tryz.func244 z z z z (rg ?_))))
   obtain ⟨p1,n1,c5,rfl⟩:=rd_form h1
   refine e_ z (y_boxS (cs:=#[(.slice p1 n1 c5)]) H z (fun b1 w H=>(v_ z (sg (.nilFunc) z) (nl (rg (v_ z (r_mkf [pt b1] z) (v_ z (sg (.func (.func 284) #[] #[pt b1]) z) (nl (wc_ret (⟨.inl z,.func (.func 284) #[] #[pt b1],tk0 z ⟨resM z (rv_t rv_nil) z,(e_ z (y_in 9 [.func (.func 284) #[] #[pt b1]] e_en_243 Tryz.func243 z z z z (rg (v_ z (sg (.slice none 0 0) z) (nl (rg (v_ z (mv (.func (.func 284) #[] #[pt b1]) z) (e_ z (y_in 5 [.func (.func 284) #[] #[pt b1]] e_en_282 Tryz.func282 z z z z (rg (v_ z (sg (.slice none 0 0) z) (nl (rg (v_ z (mv (.func (.func 284) #[] #[pt b1]) z) (e_ z (y_in 13 [.slice none 0 0,.func (.func 284) #[] #[pt b1]] e_en_315 Tryz.func315 z z z z ?_))))))))))))))))⟩⟩))))))))))
   have H:=H.mk0
   refine rg (e_ z (y_boxS (cs:=#[.slice none 0 0]) H z (fun b2 w H=>(v_ z (sg (.slice none 0 0) z) (nl (wc_seq (rg (v_ z (mv (.func (.func 284) #[] #[pt b1]) z) (nl (wc_block (wc_rf 16 [pt b1] z Tryz.func284 z z z z z H 2 z z (fun v1 b3 o1 w hO30986 H=>(rg (v_ z (r_load e_sc_22 z (blk_cell (H.get 1 z) z)) (v_ z (r_lenR e_ul_22 (H.rd h1) z) (v_ z (mv (.int .i64 0) z) (nl (wc_block ?_))))))))))))))))))
   have H:=H.nilOwn (.int .u8) 5
   refine wc_loop (fun kk t w=>∃ (l1 : List (Int)) (x2 : Int) (v2 : Value) (t2 : Fr),kk ≤ k1 ∧ welch_Fit.l0 kk a1 a2 a3 l1 x2 = some r ∧ t = upds t2 [(0,.func (.yield b3) #[] #[]),(5,(.slice p1 n1 c5)),(6,.int .i64 (a1.length : Int)),(7,.int .i64 x2),(1000000,undef)] ∧ St (Rs.fld f0_).fp w0 w [.fld f0_,.blk b1 #[(.slice p1 n1 c5)] 22,.mks v1,.blk b2 #[v2] 22,.obj b3 (.loop o1),.own (.int .u8) 5 v2 l1]) k1 ?_ ?_
   · exact ⟨_,_,_,_,Nat.le_refl _,E,upds_eq ⟨z,z,z,z,z,trivial⟩,H⟩
   rintro kk t w ⟨l1,x2,v2,t2,hk2,E,rfl,H⟩
   obtain ⟨k2,rfl⟩ | rfl : (∃ k',kk = k' + 1) ∨ kk = 0:=by cases kk; exact .inr rfl; exact .inl ⟨_,rfl⟩
   rotate_left
   · cases E
   rw [welch_Fit.l0] at E
   refine rg (v_ z (r_lss z z) (nl (wc_seq ?_)))
   refine wc_cond z (fun c6=>?_) (fun c6=>?_)
   · have E:=iT c6 E
     refine wc_skip (n_thn (wc_seq (wc_block (rg ?_))))
     obtain ⟨⟨g1,g2⟩,E⟩:=grd_some E
     refine v_ z (r_idx e_sl_22 (H.rd h1) z z g1 g2) (v_ z (r_ldI e_sc_5 (H.rd h1) g1 g2 z) (v_ z (sg (.int .u8 (at_ 0 a1 x2)) z) (nl (rg (v_ z (mv (.func (.yield b3) #[] #[]) z) (v_ z (mv (.int .u8 (at_ 0 a1 x2)) z) (e_ z (y_yld [.int .u8 (at_ 0 a1 x2)] z z H 4 z hO30986 z z (wc_region (v_ z (sg (.int .u8 (at_ 0 a1 x2)) z) (wl_nil (yB H 4 z hO30986 (fun w H=>(wc_block (wc_region (v_ z (r_load e_sc_22 z (blk_cell (H.get 3 z) z)) (v_ z (mv (.int .u8 (at_ 0 a1 x2)) z) (e_ z (y_bsL (e:=(.int .u8)) (l:=[at_ 0 a1 x2]) e_sl_22 H z (by decide) ⟨z,z,trivial⟩ (by decide) (fun v3 w H=>?_))))))))))))))))))))
     obtain ⟨g3,E⟩:=grd_some E
     refine e_ z (y_app e_sl_22 H 5 z (own_rd (H.get 6 z)) z z (by omega) (by unfold maxLen; omega) (fun v4 w H=>?_))
     obtain ⟨p2,n2,c7,rfl⟩:=own_form (H.get 5 z)
     refine s_ (y_storeB e_sz_22 H 3 z z z z z (fun w H=>(wl_nil (n_bk (yN H 4 z hO30986 (fun w H=>(v_ z (rv_eq (v':=.bool false) (r_not z) z) (nl (wc_condF z (wc_skip (n_bk (n_thn (wc_region (v_ z (r_add z z) (v_ z (mv (.int .i64 (i64.wrap (x2 + 1))) z) (wl_nil ?_))))))))))))))))
     exact ⟨k2,Nat.lt_succ_self _,_,_,_,_,Nat.le_of_succ_le hk2,E,upds_eq ⟨z,z,z,z,z,trivial⟩,H.sel [0,1,2,3,4,5] z z⟩
   · have E:=iF c6 E
     refine wc_exit (x_thn (x_thn (x_bk (⟨.inr z,.tuple #[],tk0 z ⟨resM z rv_nil z,(el_n H 4 z hO30986 (fun w H=>(n_bk (n_thn (rg (v_ z (r_load e_sc_22 z (blk_cell (H.get 3 z) z)) (v_ z (sg v2 z) (nl (wc_ret (⟨.inl z,v2,tkA H 2 z z (fun w H=>⟨resM z (rv_t rv_nil) z,(v_ z (sg v2 z) (nl (wc_ret (⟨.inl z,v2,tk0 z ⟨resM z (rv_t rv_nil) z,(v_ z (sg v2 z) (nl (rg (v_ z (mv v2 z) (e_ z (y_in 11 [v2] e_en_283 Tryz.func283 z z z z (rg (v_ z (mv v2 z) (v_ z (r_lenR e_ul_22 (own_rd (H.get 5 z)) z) (v_ z (sg (.int .i64 (l1.length : Int)) z) (nl (wc_region (v_ z (mv v2 z) (v_ z (mv (.int .i64 (l1.length : Int)) z) (v_ z (mv (.int .i64 (l1.length : Int)) z) (v_ z (r_conv z Tryz.underlying3 Tryz.underlying130) ?_))))))))))))))))⟩⟩))))⟩)⟩))))))))))⟩⟩))))
     obtain ⟨x3,E36051,E⟩:=bind_some E
     refine e_ z (y_callL e_en_202 z ((math_bits_Len.calls E36051).mono ?_))
     rintro _ w ⟨rfl,K⟩
     have H:=H.app K
     refine ⟨_,z,(e_ z (y_in 134 [v2,.int .i64 0,.int .i64 (l1.length : Int),.int .i64 x3] e_en_316 Tryz.func316 z z z z (rg (v_ z (sg (.bool true) z) (nl (rg (v_ z (sg (.bool true) z) (nl (wc_block ?_)))))))))⟩
     refine wc_loop (fun kk t w=>∃ (t3 : Fr),kk ≤ k2 ∧ welch_Fit.l1 kk a1 a2 a3 l1 x3 = some r ∧ t = upds t3 [(0,v2),(1,.int .i64 0),(2,.int .i64 (l1.length : Int)),(3,.int .i64 x3),(8,.bool true),(9,.bool true),(1000000,undef)] ∧ St (Rs.fld f0_).fp w0 w [.fld f0_,.blk b1 #[(.slice p1 n1 c5)] 22,.mks undef,.blk b2 #[v2] 22,.obj b3 (.loop (lpX o1)),.own (.int .u8) 5 v2 l1]) k2 ?_ ?_
     · exact ⟨_,Nat.le_refl _,E,upds_eq ⟨z,z,z,z,z,z,z,trivial⟩,H⟩
     rintro kk t w ⟨t3,hk3,E,rfl,H⟩
     obtain ⟨k3,rfl⟩ | rfl : (∃ k',kk = k' + 1) ∨ kk = 0:=by cases kk; exact .inr rfl; exact .inl ⟨_,rfl⟩
     rotate_left
     · cases E
     rw [welch_Fit.l1] at E
     refine wc_block (rg (v_ z (mv (.int .i64 (l1.length : Int)) z) (v_ z (mv (.int .i64 0) z) (v_ z (r_sub z z) (v_ z (sg (.int .i64 (i64.wrap ((l1.length : Int) - 0))) z) (nl (wc_seq (rg (v_ z (mv (.int .i64 (i64.wrap ((l1.length : Int) - 0))) z) (v_ z (r_leq z z) (nl ?_)))))))))))
     refine wc_cond z (fun c8=>?_) (fun c8=>?_)
     · have E:=iT c8 E
       refine rg (v_ z (mv v2 z) (v_ z (mv (.int .i64 0) z) (v_ z (mv (.int .i64 (l1.length : Int)) z) (e_ z (y_in 49 [v2,.int .i64 0,.int .i64 (l1.length : Int)] e_en_331 Tryz.func331 z z z z (rg (v_ z (mv (.int .i64 0) z) (v_ z (rv_eq (v':=.int .i64 1) (r_add z z) z) (v_ z (sg (.int .i64 1) z) (nl (wc_block ?_)))))))))))
       refine wc_loop (fun kk t w=>∃ (l2 : List (Int)) (x4 : Int) (t4 : Fr),kk ≤ k3 ∧ welch_Fit.l2 kk a1 a2 a3 l1 l2 x4 = some r ∧ t = upds t4 [(0,v2),(1,.int .i64 0),(2,.int .i64 (l1.length : Int)),(6,.int .i64 x4),(1000000,undef)] ∧ St (Rs.fld f0_).fp w0 w [.fld f0_,.blk b1 #[(.slice p1 n1 c5)] 22,.mks undef,.blk b2 #[v2] 22,.obj b3 (.loop (lpX o1)),.own (.int .u8) 5 v2 l2]) k3 ?_ ?_
       · exact ⟨_,_,_,Nat.le_refl _,E,upds_eq ⟨z,z,z,z,z,trivial⟩,H⟩
       rintro kk t w ⟨l2,x4,t4,hk4,E,rfl,H⟩
       obtain ⟨k4,rfl⟩ | rfl : (∃ k',kk = k' + 1) ∨ kk = 0:=by cases kk; exact .inr rfl; exact .inl ⟨_,rfl⟩
       rotate_left
       · cases E
       rw [welch_Fit.l2] at E
       refine wc_seq (rg (v_ z (mv (.int .i64 x4) z) (v_ z (mv (.int .i64 (l1.length : Int)) z) (v_ z (r_lss z z) (nl ?_)))))
       refine wc_cond z (fun c9=>?_) (fun c9=>?_)
       · have E:=iT c9 E
         refine wc_skip (n_thn (wc_seq (wc_block (rg (v_ z (mv (.int .i64 x4) z) (v_ z (sg (.int .i64 x4) z) (nl (wc_block ?_))))))))
         refine wc_loop (fun kk t w=>∃ (l3 : List (Int)) (x5 : Int) (t5 : Fr),kk ≤ k4 ∧ welch_Fit.l3 kk a1 a2 a3 l1 x4 l3 x5 = some r ∧ t = upds t5 [(0,v2),(1,.int .i64 0),(2,.int .i64 (l1.length : Int)),(6,.int .i64 x4),(7,.int .i64 x5),(1000000,undef)] ∧ St (Rs.fld f0_).fp w0 w [.fld f0_,.blk b1 #[(.slice p1 n1 c5)] 22,.mks undef,.blk b2 #[v2] 22,.obj b3 (.loop (lpX o1)),.own (.int .u8) 5 v2 l3]) k4 ?_ ?_
         · exact ⟨_,_,_,Nat.le_refl _,E,upds_eq ⟨z,z,z,z,z,z,trivial⟩,H⟩
         rintro kk t w ⟨l3,x5,t5,hk5,E,rfl,H⟩
         obtain ⟨k5,rfl⟩ | rfl : (∃ k',kk = k' + 1) ∨ kk = 0:=by cases kk; exact .inr rfl; exact .inl ⟨_,rfl⟩
         rotate_left
         · cases E
         rw [welch_Fit.l3] at E
         refine wc_seq (wc_seq (wc_drawnS (ds:=[]) e_mo H z z ?_))
         have H:=H.drew
         refine wt 0 (tf 1 15) z z z (by kernel_rfl) H (fun w H=>(mv (.int .i64 x5) z)) (wt 1 (tf 2 15) z z z (by kernel_rfl) H (fun w H=>(mv (.int .i64 0) z)) (wt 2 (tf 3 15) z z z (by kernel_rfl) H (fun w H=>(r_gtr z z)) (wt 3 (tf 4 15) z z z (by kernel_rfl) H (fun w H=>(mv (.bool (decide (0 < x5))) z)) ?_)))
         rcases Bool.eq_false_or_eq_true (decide (0 < x5)) with c10 | c10
         · have E:=iT c10 E
           refine wa_takeOn (i:=4) (l':=(tf 5 15)) z z z c10 z (by kernel_rfl) H (fun w H=>(mv v2 z)) (wa_takeOn (i:=5) (l':=(tf 6 15)) z z z c10 z (by kernel_rfl) H (fun w H=>(mv (.int .i64 x5) z)) ?_)
           obtain ⟨⟨g4,g5⟩,E⟩:=grd_some E
           refine wa_takeOn (i:=6) (l':=(tf 7 15)) z z z c10 z (by kernel_rfl) H (fun w H=>(r_idx e_sl_22 (own_rd (H.get 5 z)) z z g4 g5)) (wa_takeOn (i:=7) (l':=(tf 8 15)) z z z c10 z (by kernel_rfl) H (fun w H=>(r_ldI e_sc_5 (own_rd (H.get 5 z)) g4 g5 z)) (wa_takeOn (i:=8) (l':=(tf 9 15)) z z z c10 z (by kernel_rfl) H (fun w H=>(mv v2 z)) (wa_takeOn (i:=9) (l':=(tf 10 15)) z z z c10 z (by kernel_rfl) H (fun w H=>(mv (.int .i64 x5) z)) (wa_takeOn (i:=10) (l':=(tf 11 15)) z z z c10 z (by kernel_rfl) H (fun w H=>(r_sub z z)) ?_))))
           obtain ⟨⟨g6,g7⟩,E⟩:=grd_some E
           refine wa_takeOn (i:=11) (l':=(tf 12 15)) z z z c10 z (by kernel_rfl) H (fun w H=>(r_idx e_sl_22 (own_rd (H.get 5 z)) z z g6 g7)) (wa_takeOn (i:=12) (l':=(tf 13 15)) z z z c10 z (by kernel_rfl) H (fun w H=>(r_ldI e_sc_5 (own_rd (H.get 5 z)) g6 g7 z)) ?_)
           obtain ⟨x6,E41046,E⟩:=bind_some E
           refine wa_oneOn (i:=13) (l':=(tf 14 15)) z z z c10 z (by kernel_rfl) (y_callL e_en_337 z ((cmp_Less_337.calls E41046).mono ?_))
           rintro _ w ⟨rfl,K⟩
           have H:=H.app K
           refine ⟨_,z,⟨fun _=>H.sel [0,1,2,3,4,5] z z,(wt 14 (tf 15 15) z z z (by kernel_rfl) (H.sel [0,1,2,3,4,5] z z) (fun w H=>(pT (.bool x6) z z c10)) (wa_done (by kernel_rfl) (n_thn ?_)))⟩⟩
           refine wc_cond z (fun c11=>?_) (fun c11=>?_)
           · have E:=iT c11 E
             refine wc_skip (n_thn (wc_seq (wc_block (wc_drawnW (ds:=[17]) (fun w=>∃ l' : List (Int),l'.length = l3.length ∧ St (Rs.fld f0_).fp w0 w [.fld f0_,.blk b1 #[(.slice p1 n1 c5)] 22,.mks undef,.blk b2 #[v2] 22,.obj b3 (.loop (lpX o1)),.own (.int .u8) 5 v2 l']) e_mo H z z ?_))))
             have H:=H.drew
             refine wt 0 (tf 1 18) z z z (by kernel_rfl) ⟨_,by simp,H⟩ (fun w ⟨l',e',H⟩=>(mv v2 z)) (wt 1 (tf 2 18) z z z (by kernel_rfl) ⟨_,by simp,H⟩ (fun w ⟨l',e',H⟩=>(mv (.int .i64 x5) z)) (wt 2 (tf 3 18) z z z (by kernel_rfl) ⟨_,by simp,H⟩ (fun w ⟨l',e',H⟩=>(mv v2 z)) (wt 3 (tf 4 18) z z z (by kernel_rfl) ⟨_,by simp,H⟩ (fun w ⟨l',e',H⟩=>(mv (.int .i64 x5) z)) (wt 4 (tf 5 18) z z z (by kernel_rfl) ⟨_,by simp,H⟩ (fun w ⟨l',e',H⟩=>(r_sub z z)) (wt 5 (tf 6 18) z z z (by kernel_rfl) ⟨_,by simp,H⟩ (fun w ⟨l',e',H⟩=>(mv v2 z)) (wt 6 (tf 7 18) z z z (by kernel_rfl) ⟨_,by simp,H⟩ (fun w ⟨l',e',H⟩=>(mv (.int .i64 x5) z)) (wt 7 (tf 8 18) z z z (by kernel_rfl) ⟨_,by simp,H⟩ (fun w ⟨l',e',H⟩=>(r_sub z z)) ?_)))))))
             obtain ⟨⟨g8,g9⟩,E⟩:=grd_some E
             refine wt 8 (tf 9 18) z z z (by kernel_rfl) ⟨_,by simp,H⟩ (fun w ⟨l',e',H⟩=>(r_idxe e' e_sl_22 (own_rd (H.get 5 z)) z z g8 (by simpa using g9))) (wt 10 #[true,true,true,true,true,true,true,true,true,false,true,false,false,false,false,false,false,false] z z z (by kernel_rfl) ⟨_,by simp,H⟩ (fun w ⟨l',e',H⟩=>(mv v2 z)) (wt 11 #[true,true,true,true,true,true,true,true,true,false,true,true,false,false,false,false,false,false] z z z (by kernel_rfl) ⟨_,by simp,H⟩ (fun w ⟨l',e',H⟩=>(mv (.int .i64 x5) z)) ?_))
             obtain ⟨⟨g10,g11⟩,E⟩:=grd_some E
             refine wt 12 #[true,true,true,true,true,true,true,true,true,false,true,true,true,false,false,false,false,false] z z z (by kernel_rfl) ⟨_,by simp,H⟩ (fun w ⟨l',e',H⟩=>(r_idxe e' e_sl_22 (own_rd (H.get 5 z)) z z g10 (by simpa using g11))) (wa_pair (i:=9) (j:=13) (li:=(tf 13 18)) (lj:=#[true,true,true,true,true,true,true,true,true,false,true,true,true,true,false,false,false,false]) (l':=(tf 14 18)) z z z z z z z z z (by kernel_rfl) (by kernel_rfl) (by kernel_rfl) ⟨_,by simp,H⟩ (r_ldI e_sc_5 (own_rd (H.get 5 z)) g8 g9 z) (r_ldI e_sc_5 (own_rd (H.get 5 z)) g8 g9 z) (r_ldI e_sc_5 (own_rd (H.get 5 z)) g10 g11 z) (r_ldI e_sc_5 (own_rd (H.get 5 z)) g10 g11 z) ?_)
             obtain ⟨⟨g12,g13⟩,E⟩:=grd_some E
             refine wt 14 (tf 15 18) z z z (by kernel_rfl) ⟨_,by simp,H⟩ (fun w ⟨l',e',H⟩=>(r_idxe e' e_sl_22 (own_rd (H.get 5 z)) z z g12 (by simpa using g13))) (wa_one (i:=15) (l':=(tf 16 18)) z z z (by kernel_rfl) (y_storeI e_sz_5 H 5 z g12 g13 z z (fun w H=>⟨fun _=>⟨_,by simp,H.sel [0,1,2,3,4,5] z z⟩,?_⟩)))
             obtain ⟨⟨g14,g15⟩,E⟩:=grd_some E
             refine wt 16 (tf 17 18) z z z (by kernel_rfl) ⟨_,by simp,H.sel [0,1,2,3,4,5] z z⟩ (fun w ⟨l',e',H⟩=>(r_idxe e' e_sl_22 (own_rd (H.get 5 z)) z z g14 (by simpa using g15))) (wa_one (i:=17) (l':=(tf 18 18)) z z z (by kernel_rfl) (y_storeI e_sz_5 H 5 z g14 g15 z z (fun w H=>⟨fun h=>(h (by decide)).elim,(wa_done (by kernel_rfl) (n_bk (n_thn (wc_region (v_ z (mv (.int .i64 x5) z) (v_ z (r_sub z z) (v_ z (sg (.int .i64 (i64.wrap (x5 - 1))) z) (wl_nil ?_))))))))⟩)))
             exact ⟨k5,Nat.lt_succ_self _,_,_,_,Nat.le_of_succ_le hk5,E,upds_eq ⟨z,z,z,z,z,z,trivial⟩,H⟩
           · have E:=iF c11 E
             refine wc_exit (x_thn (x_thn (x_bk (n_bk (n_thn (wc_region (v_ z (mv (.int .i64 x4) z) (v_ z (r_add z z) (v_ z (sg (.int .i64 (i64.wrap (x4 + 1))) z) (wl_nil ?_))))))))))
             exact ⟨k5,by omega,_,_,_,by omega,E,upds_eq ⟨z,z,z,z,z,trivial⟩,H⟩
         · have E:=iF c10 E
           refine wa_off (i:=4) (l':=(tf 5 15)) z z z c10 z z (by kernel_rfl) H (wa_off (i:=5) (l':=(tf 6 15)) z z z c10 z z (by kernel_rfl) H (wa_off (i:=6) (l':=(tf 7 15)) z z z c10 z z (by kernel_rfl) H (wa_off (i:=7) (l':=(tf 8 15)) z z z c10 z z (by kernel_rfl) H (wa_off (i:=8) (l':=(tf 9 15)) z z z c10 z z (by kernel_rfl) H (wa_off (i:=9) (l':=(tf 10 15)) z z z c10 z z (by kernel_rfl) H (wa_off (i:=10) (l':=(tf 11 15)) z z z c10 z z (by kernel_rfl) H (wa_off (i:=11) (l':=(tf 12 15)) z z z c10 z z (by kernel_rfl) H (wa_off (i:=12) (l':=(tf 13 15)) z z z c10 z z (by kernel_rfl) H (wa_off (i:=13) (l':=(tf 14 15)) z z z c10 z z (by kernel_rfl) H (wt 14 (tf 15 15) z z z (by kernel_rfl) H (fun w H=>(pF (.bool false) z z c10)) (wa_done (by kernel_rfl) (n_thn (wc_condF z (wc_exit (x_thn (x_thn (x_bk (n_bk (n_thn (wc_region (v_ z (mv (.int .i64 x4) z) (v_ z (r_add z z) (v_ z (sg (.int .i64 (i64.wrap (x4 + 1))) z) (wl_nil ?_))))))))))))))))))))))))
           exact ⟨k5,by omega,_,_,_,by omega,E,upds_eq ⟨z,z,z,z,z,trivial⟩,H⟩
       · have E:=iF c9 E
         refine wc_exit (x_thn (x_thn (x_bk (⟨.inr z,.tuple #[],tk0 z ⟨resM z rv_nil z,(nl (wc_ret ((r_thn (r_bk (r_thn (r_bk ⟨.inl z,.tuple #[],tk0 z ⟨resM z rv_nil z,(wl_nil (⟨.inr z,.tuple #[],tk0 z ⟨resM z rv_nil z,(nl (rg (v_ z (mv v2 z) (v_ z (sg v2 z) (nl (wc_ret (⟨.inl z,v2,tk0 z ⟨resM z (rv_t rv_nil) z,?_⟩⟩)))))))⟩⟩))⟩⟩)))))))⟩⟩))))
         refine e_ z (y_J (fun v w=>∃ (k6 : Nat),k6 ≤ k4 ∧ welch_Fit.j1 k6 a1 a2 a3 l2 = some r ∧ v = v2 ∧ St (Rs.fld f0_).fp w0 w [.fld f0_,.blk b1 #[(.slice p1 n1 c5)] 22,.mks undef,.blk b2 #[v2] 22,.obj b3 (.loop (lpX o1)),.own (.int .u8) 5 v2 l2]) ?_ ?_)
         · refine (y_in 61 [v2] e_en_242 Tryz.func242 z z z z (rg (v_ z (sg (.slice none 0 0) z) (nl (wc_seq (rg (v_ z (mv v2 z) (v_ z (r_lenR e_ul_22 (own_rd (H.get 5 z)) z) (v_ z (r_lss z z) (nl ?_))))))))))
           refine wc_cond z (fun c12=>?_) (fun c12=>?_)
           · have E:=iT c12 E
             refine rg (v_ z (mv v2 z) (v_ z (sg v2 z) (nl (wc_ret ?_))))
             exact (r_thn ⟨.inl z,v2,tk0 z ⟨resM z (rv_t rv_nil) z,k4,Nat.le_refl _,E,z,H⟩⟩)
           · have E:=iF c12 E
             refine wc_skip (n_thn (wc_seq (rg (v_ z (sg (.int .i64 1) z) (nl (wc_block ?_))))))
             refine wc_loop (fun kk t w=>∃ (x7 : Int) (t6 : Fr),kk ≤ k4 ∧ welch_Fit.l4 kk a1 a2 a3 l2 x7 = some r ∧ t = upds t6 [(0,v2),(2,.slice none 0 0),(3,.int .i64 x7),(1000000,undef)] ∧ St (Rs.fld f0_).fp w0 w [.fld f0_,.blk b1 #[(.slice p1 n1 c5)] 22,.mks undef,.blk b2 #[v2] 22,.obj b3 (.loop (lpX o1)),.own (.int .u8) 5 v2 l2]) k4 ?_ ?_
             · exact ⟨_,_,Nat.le_refl _,E,upds_eq ⟨z,z,z,z,trivial⟩,H⟩
             rintro kk t w ⟨x7,t6,hk6,E,rfl,H⟩
             obtain ⟨k7,rfl⟩ | rfl : (∃ k',kk = k' + 1) ∨ kk = 0:=by cases kk; exact .inr rfl; exact .inl ⟨_,rfl⟩
             rotate_left
             · cases E
             rw [welch_Fit.l4] at E
             refine wc_seq (rg (v_ z (mv (.int .i64 x7) z) (v_ z (mv v2 z) (v_ z (r_lenR e_ul_22 (own_rd (H.get 5 z)) z) (v_ z (r_lss z z) (nl ?_))))))
             refine wc_cond z (fun c13=>?_) (fun c13=>?_)
             · have E:=iT c13 E
               refine wc_skip (n_thn (wc_seq (wc_block (wc_seq (wc_drawnS (ds:=[]) e_mo H z z ?_)))))
               have H:=H.drew
               refine wt 0 (tf 1 10) z z z (by kernel_rfl) H (fun w H=>(mv v2 z)) (wt 1 (tf 2 10) z z z (by kernel_rfl) H (fun w H=>(mv (.int .i64 x7) z)) ?_)
               obtain ⟨⟨g16,g17⟩,E⟩:=grd_some E
               refine wt 2 (tf 3 10) z z z (by kernel_rfl) H (fun w H=>(r_idx e_sl_22 (own_rd (H.get 5 z)) z z g16 g17)) (wt 3 (tf 4 10) z z z (by kernel_rfl) H (fun w H=>(r_ldI e_sc_5 (own_rd (H.get 5 z)) g16 g17 z)) (wt 4 (tf 5 10) z z z (by kernel_rfl) H (fun w H=>(mv v2 z)) (wt 5 (tf 6 10) z z z (by kernel_rfl) H (fun w H=>(mv (.int .i64 x7) z)) (wt 6 (tf 7 10) z z z (by kernel_rfl) H (fun w H=>(r_sub z z)) ?_))))
               obtain ⟨⟨g18,g19⟩,E⟩:=grd_some E
               refine wt 7 (tf 8 10) z z z (by kernel_rfl) H (fun w H=>(r_idx e_sl_22 (own_rd (H.get 5 z)) z z g18 g19)) (wt 8 (tf 9 10) z z z (by kernel_rfl) H (fun w H=>(r_ldI e_sc_5 (own_rd (H.get 5 z)) g18 g19 z)) (wt 9 (tf 10 10) z z z (by kernel_rfl) H (fun w H=>(r_eql z z)) (wa_done (by kernel_rfl) (n_thn ?_))))
               refine wc_cond z (fun c14=>?_) (fun c14=>?_)
               · have E:=iT c14 E
                 cases E
               · have E:=iF c14 E
                 refine wc_skip (n_bk (n_thn (wc_region (v_ z (mv (.int .i64 x7) z) (v_ z (r_add z z) (v_ z (sg (.int .i64 (i64.wrap (x7 + 1))) z) (wl_nil ?_)))))))
                 exact ⟨k7,Nat.lt_succ_self _,_,_,Nat.le_of_succ_le hk6,E,upds_eq ⟨z,z,z,z,trivial⟩,H⟩
             · have E:=iF c13 E
               refine wc_exit (x_thn (x_thn (x_bk (n_thn (rg (v_ z (mv v2 z) (v_ z (sg v2 z) (nl (wc_ret ?_)))))))))
               exact ⟨.inl z,v2,tk0 z ⟨resM z (rv_t rv_nil) z,k7,by omega,E,z,H⟩⟩
         rintro _ w ⟨k6,hk7,E,hv_,H⟩
         have hv_:=hv_.symm
         subst hv_
         unfold welch_Fit.j1 at E
         refine v_ z (r_lenR e_ul_22 (own_rd (H.get 5 z)) z) (v_ z (mv ((.slice p1 n1 c5)) z) (v_ z (r_lenR e_ul_22 (H.rd h1) z) (v_ z (r_lss z z) (v_ z (sg (.bool (decide ((l2.length : Int) < (a1.length : Int)))) z) (nl ?_)))))
         refine wc_cond z (fun c15=>?_) (fun c15=>?_)
         · have E:=iT c15 E
           refine rg (v_ z (sg (.slice none 0 0) z) (v_ z (sg (.bool false) z) (nl (wc_ret ?_))))
           have H:=H.nilOwn (.int .u8) 5
           cases E
           exact (r_bk (r_thn ⟨.inl z,_,tk0 z ⟨resN z (rv_t (rv_t rv_nil)),_,z,H.sub2 0 6 z z z⟩⟩))
         · have E:=iF c15 E
           refine wc_skip (n_bk (n_thn (rg (v_ z (mv ((.slice p1 n1 c5)) z) (v_ z (r_lenR e_ul_22 (H.rd h1) z) (v_ z (mv (.int .i64 a3) z) (v_ z (r_sub z z) (v_ z (r_quo z z (by decide)) (v_ z (sg (.int .i64 (i64.wrap (Int.tdiv (i64.wrap ((a1.length : Int) - a3)) 2))) z) (nl (rg (v_ z (mv (pt f0_.p) z) (v_ z (mv ((.slice p1 n1 c5)) z) (v_ z (mv v2_ z) (v_ z (mv (.int .i64 a3) z) (v_ z (mv (.int .i64 (i64.wrap (Int.tdiv (i64.wrap ((a1.length : Int) - a3)) 2))) z) ?_))))))))))))))))
           obtain ⟨x8,E41236,E⟩:=bind_some E
           refine e_ z (y_callL e_en_245 z ((welch_sought.calls (H.get 0 z) (H.argX 0 z (H.rd h1)) (H.argX 0 z (H.rd h2)) E41236).mono ?_))
           rintro _ w ⟨v5,rfl,K⟩
           have H:=H.appX 0 z K
           refine ⟨_,z,(e_ z (y_allocS e_zr_333 H (fun b4 w H=>?_)))⟩
           obtain ⟨p3,n3,c16,rfl⟩:=own_form (H.get 6 z)
           refine s_ (y_storeBA e_sz_333 H 7 z z z z z z (fun w H=>(nl (wc_seq (rg (v_ z (r_faddr e_fa_333_1 z) (v_ z (r_load e_sc_4 z (blk_cell (H.get 7 z) z)) (v_ z (r_not z) (v_ z (mv (.bool (!x8.2)) z) ?_)))))))))
           rcases Bool.eq_false_or_eq_true (!x8.2) with c17 | c17
           · have E:=iT c17 E
             refine off_ c17 z z z (off_ c17 z z z (off_ c17 z z z (off_ c17 z z z (off_ c17 z z z (v_ z (pT (.bool true) z z c17) (v_ z (mv (.bool true) z) (off_ z z z z (off_ z z z z (off_ z z z z (off_ z z z z (off_ z z z z (off_ z z z z (off_ z z z z (off_ z z z z (v_ z (pT (.bool true) z z z) (nl (wc_condT z (rg (v_ z (sg (.slice none 0 0) z) (v_ z (sg (.bool false) z) (nl (wc_ret ?_))))))))))))))))))))))
             have H:=H.nilOwn (.int .u8) 5
             cases E
             exact (r_thn ⟨.inl z,_,tk0 z ⟨resN z (rv_t (rv_t rv_nil)),_,z,H.sub2 0 8 z z z⟩⟩)
           · have E:=iF c17 E
             refine on_ c17 z z (r_faddr e_fa_333_0 z) (on_ c17 z z (r_load e_sc_22 z (blk_cell (H.get 7 z) z)) ?_)
             obtain ⟨x9,E41244,E⟩:=bind_some E
             refine wl_on z c17 z (y_callL e_en_220 z ((poly_Deg.calls (H.own 6 z (own_rd (H.get 6 z))) E41244).mono ?_))
             rintro _ w ⟨rfl,K⟩
             have H:=H.app K
             refine ⟨_,z,(on_ c17 z z (mv (.int .i64 a3) z) (on_ c17 z z (r_geq z z) (v_ z (pF (.bool (decide (a3 ≤ x9))) z z c17) (v_ z (mv (.bool (decide (a3 ≤ x9))) z) ?_))))⟩
             rcases Bool.eq_false_or_eq_true (decide (a3 ≤ x9)) with c18 | c18
             · have E:=iT c18 E
               refine off_ c18 z z z (off_ c18 z z z (off_ c18 z z z (off_ c18 z z z (off_ c18 z z z (off_ c18 z z z (off_ c18 z z z (off_ c18 z z z (v_ z (pT (.bool true) z z c18) (nl (wc_condT z (rg (v_ z (sg (.slice none 0 0) z) (v_ z (sg (.bool false) z) (nl (wc_ret ?_)))))))))))))))
               have H:=H.nilOwn (.int .u8) 5
               cases E
               exact (r_thn ⟨.inl z,_,tk0 z ⟨resN z (rv_t (rv_t rv_nil)),_,z,H.sub2 0 8 z z z⟩⟩)
             · have E:=iF c18 E
               refine on_ c18 z z (mv (pt f0_.p) z) (on_ c18 z z (r_faddr e_fa_333_0 z) (on_ c18 z z (r_load e_sc_22 z (blk_cell (H.get 7 z) z)) (on_ c18 z z (mv ((.slice p1 n1 c5)) z) (on_ c18 z z (mv v2_ z) ?_))))
               obtain ⟨x10,E41247,E⟩:=bind_some E
               refine wl_on z c18 z (y_callL e_en_246 z ((welch_Unlike.calls (H.get 0 z) (H.ownX 6 0 z z z (own_rd (H.get 6 z))) (H.argX 0 z (H.rd h1)) (H.argX 0 z (H.rd h2)) E41247).mono ?_))
               rintro _ w ⟨rfl,K⟩
               have H:=H.appX 0 z K
               refine ⟨_,z,?_⟩
               have H : St (Rs.fld f0_).fp w0 _ [.fld f0_,.blk b1 #[(.slice p1 n1 c5)] 22,.mks undef,.blk b2 #[v2] 22,.obj b3 (.loop (lpX o1)),.own (.int .u8) 5 v2 l2,.own (.int .u8) 5 (.slice p3 n3 c16) x8.1,.blk b4 #[(.slice p3 n3 c16),.bool x8.2] 333]:=H
               refine on_ c18 z z (mv (.int .i64 (i64.wrap (Int.tdiv (i64.wrap ((a1.length : Int) - a3)) 2))) z) (on_ c18 z z (r_gtr z z) (v_ z (pF (.bool (decide (i64.wrap (Int.tdiv (i64.wrap ((a1.length : Int) - a3)) 2) < x10))) z z c18) (nl ?_)))
               refine wc_cond z (fun c19=>?_) (fun c19=>?_)
               · have E:=iT c19 E
                 refine rg (v_ z (sg (.slice none 0 0) z) (v_ z (sg (.bool false) z) (nl (wc_ret ?_))))
                 have H:=H.nilOwn (.int .u8) 5
                 cases E
                 exact (r_thn ⟨.inl z,_,tk0 z ⟨resN z (rv_t (rv_t rv_nil)),_,z,H.sub2 0 8 z z z⟩⟩)
               · have E:=iF c19 E
                 refine wc_skip (n_thn (rg (v_ z (r_faddr e_fa_333_0 z) (v_ z (r_load e_sc_22 z (blk_cell (H.get 7 z) z)) (v_ z (sg ((.slice p3 n3 c16)) z) (v_ z (sg (.bool true) z) (nl (wc_ret ?_))))))))
                 cases E
                 exact ⟨.inl z,_,tk0 z ⟨resN z (rv_t (rv_t rv_nil)),_,z,H.sub2 0 6 z z z⟩⟩
     · have E:=iF c8 E
       refine wc_skip (n_thn (wc_seq (rg (v_ z (mv (.int .i64 x3) z) (v_ z (r_eql z z) (nl ?_))))))
       refine wc_cond z (fun c20=>?_) (fun c20=>?_)
       · have E:=iT c20 E
         cases E
       · have E:=iF c20 E
         cases E
def welch_Rebuild.f (k : Nat) (a1 : Int × Int × Int) (a2 : List Int) : Option (List Int):=(welch_Points.f k (a1.1,a1.2.1,a1.2.2)).bind fun x2=>(value_All.f k a2 x2.1).bind fun x6=>(field_Field_Pairs.f x2.2 x6).bind fun x9=>some x9
theorem welch_Rebuild.calls {w0 : World} {k : Nat} {f0_ : FD} {a1 : Int × Int × Int} {a2 : List Int} {v2_ : Value} {r : List Int} (hf : (Rs.fld f0_).inv w0) (h2 : Rd (.of (.int .u8)) w0 (Ol (Rs.fld f0_).fp w0) v2_ a2) (E : welch_Rebuild.f k a1 a2 = some r) :
   Calls Tryz.prog 189 #[pt f0_.p,.agg #[.int .i64 a1.1,.int .i64 a1.2.1,.int .i64 a1.2.2],v2_] w0 fun e w'=>∃ (u0 : Value),e = .returned (u0) ∧ St (Rs.fld f0_).fp w0 w' [.fld f0_,.own (.int .u8) 5 u0 r]:=by
 have H:=St.start hf
 unfold welch_Rebuild.f at E
 refine calls_of_wc (N:=22) (args:=[pt f0_.p,.agg #[.int .i64 a1.1,.int .i64 a1.2.1,.int .i64 a1.2.2],v2_]) Tryz.func189 z z (by simp) ?_
 refine rg (e_ z (y_boxS (cs:=#[.int .i64 a1.1,.int .i64 a1.2.1,.int .i64 a1.2.2]) H z (fun b1 w H=>(v_ z (sg (.slice none 0 0) z) (nl (rg (v_ z (mv (pt f0_.p) z) (v_ z (r_loadB (l:=[.int .i64 a1.1,.int .i64 a1.2.1,.int .i64 a1.2.2]) e_ag_24 (H.get 1 z) z z z) ?_))))))))
 obtain ⟨x2,E3,E⟩:=bind_some E
 refine e_ z (y_callL e_en_184 z ((welch_Points.calls (H.get 0 z) E3).mono ?_))
 rintro _ w ⟨v4,v5,rfl,K⟩
 have H:=H.appX 0 z K
 refine ⟨_,z,(v_ z (r_move) (v_ z (r_extract z z) (v_ z (r_extract z z) (v_ z (sg v4 z) (v_ z (sg v5 z) (nl (rg (v_ z (mv (pt f0_.p) z) (v_ z (mv v5 z) (v_ z (mv (pt f0_.p) z) (v_ z (mv v2_ z) (v_ z (mv v4 z) ?_))))))))))))⟩
 obtain ⟨x6,E7,E⟩:=bind_some E
 refine e_ z (y_callL e_en_78 z ((value_All.calls (H.get 0 z) (H.argX 0 z (H.rd h2)) (H.ownX 2 0 z z z (own_rd (H.get 2 z))) E7).mono ?_))
 rintro _ w ⟨v8,rfl,K⟩
 have H:=H.appX 0 z K
 refine ⟨_,z,?_⟩
 obtain ⟨x9,E10,E⟩:=bind_some E
 refine e_ z (y_callL e_en_248 z ((field_Field_Pairs.calls (H.get 0 z) (H.ownX 3 0 z z z (own_rd (H.get 3 z))) (H.ownX 4 0 z z z (own_rd (H.get 4 z))) E10).mono ?_))
 rintro _ w ⟨v11,rfl,K⟩
 have H:=H.appX 0 z K
 refine ⟨_,z,(v_ z (sg v11 z) (nl (wc_ret ?_)))⟩
 cases E
 exact ⟨.inl z,_,tk0 z ⟨resN z (rv_t rv_nil),_,z,H.sub2 0 5 z z z⟩⟩
end Go.Proofs.YtkndgkbgbmhjoaaGreatDoor.Gw
