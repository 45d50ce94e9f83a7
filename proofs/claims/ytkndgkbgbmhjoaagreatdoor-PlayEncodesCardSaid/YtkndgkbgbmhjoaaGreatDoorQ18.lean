/- The card of the law that what a desk encodes is read back from what it tells: a part of its proof. The conditions are those of the statement. -/
import Derived.Test.YtkndgkbgbmhjoaaGreatDoorQ4
import Derived.Test.YtkndgkbgbmhjoaaGreatDoorQ3
import Derived.Test.YtkndgkbgbmhjoaaGreatDoorQ13
import Derived.Test.YtkndgkbgbmhjoaaGreatDoorQ15
import Derived.Test.YtkndgkbgbmhjoaaGreatDoorQ17
import Derived.Test.YtkndgkbgbmhjoaaGreatDoorQ14
namespace Go.Proofs.YtkndgkbgbmhjoaaGreatDoor.Gw
open Go Go.RowKit
set_option linter.unusedVariables false
set_option linter.unusedSimpArgs false
set_option linter.unusedSectionVars false
variable [LibO]
set_option linter.unnecessarySimpa false
set_option maxRecDepth 100000
set_option maxHeartbeats 4000000
open Go.IntKind (i8 i16 i32 i64 u8 u16 u32 u64)
def three_byPoints_do.j0 (k : Nat) (a0 : (Int × Int × Int) × List Int × List Int) (l107 : List (Int)) (l109 : List (Int)) : Option (List Int × Bool):=(welch_Fit.f k l109 l107 a0.1.2.1).bind fun x209=>bif !x209.2 then (some (([] : List (Int)),false)) else ((welch_Rebuild.f k (a0.1.1,a0.1.2.1,a0.1.2.2) x209.1).bind fun x214=>(check_Accept.f k (a0.1.1,a0.1.2.1,a0.1.2.2) a0.2.1 a0.2.2 x214).bind fun x222=>bif !x222 then (some (([] : List (Int)),false)) else (some (x214,true)))
def three_byPoints_do.l0 : Nat → ((Int × Int × Int) × List Int × List Int) → (List Int × List Int) → List (Int) → List (Int) → Int → Option (List Int × Bool)
 | 0,_,_,_,_,_=>none
 | k + 1,a0,x2,l158,l160,x161=>bif decide (x161 < (x2.1.length : Int)) then (grd (decide ((0 : Int) ≤ x161 ∧ x161 < (x2.1.length : Int))) ((slices_Contains.f k a0.2.2 x161).bind fun x194=>bif x194 then (three_byPoints_do.l0 k a0 x2 l158 l160 (i64.wrap (x161 + 1))) else (grd (decide ((0 : Int) ≤ x161 ∧ x161 < (a0.2.1.length : Int))) (grd (decide ((0 : Int) ≤ x161 ∧ x161 < (x2.2.length : Int))) ((field_Field_Div.f (at_ 0 a0.2.1 x161) (at_ 0 x2.2 x161)).bind fun x201=>grd (decide ((l160.length + ([at_ 0 x2.1 x161]).length) * 1 ≤ 140737488355328)) (grd (decide ((l158.length + ([x201.1]).length) * 1 ≤ 140737488355328)) (three_byPoints_do.l0 k a0 x2 (l158 ++ ([x201.1])) (l160 ++ ([at_ 0 x2.1 x161])) (i64.wrap (x161 + 1))))))))) else (three_byPoints_do.j0 k a0 l158 l160)
def three_byPoints_do.f (k : Nat) (a0 : (Int × Int × Int) × List Int × List Int) : Option (List Int × Bool):=(welch_Points.f k (a0.1.1,a0.1.2.1,a0.1.2.2)).bind fun x2=>three_byPoints_do.l0 k a0 x2 ([] : List (Int)) ([] : List (Int)) 0
theorem three_byPoints_do.calls {w0 : World} {k : Nat} {f0_ : FD} {a0 : (Int × Int × Int) × List Int × List Int} {v0_4_ : Value} {v0_5_ : Value} {r : List Int × Bool} (hf : (Rs.fld f0_).inv w0) (h0_4 : Rd (.of (.int .u8)) w0 (Ol (Rs.fld f0_).fp w0) v0_4_ a0.2.1) (h0_5 : Rd (.of (.int .i64)) w0 (Ol (Rs.fld f0_).fp w0) v0_5_ a0.2.2) (E : three_byPoints_do.f k a0 = some r) :
   Calls Tryz.prog 132 #[.agg #[pt f0_.p,.int .i64 a0.1.1,.int .i64 a0.1.2.1,.int .i64 a0.1.2.2,v0_4_,v0_5_]] w0 fun e w'=>∃ (u0 : Value),e = .returned (.tuple #[u0,.bool r.2]) ∧ St (Rs.fld f0_).fp w0 w' [.fld f0_,.own (.int .u8) 5 u0 r.1]:=by
 have H:=St.start hf
 unfold three_byPoints_do.f at E
 refine calls_of_wc (N:=90) (args:=[.agg #[pt f0_.p,.int .i64 a0.1.1,.int .i64 a0.1.2.1,.int .i64 a0.1.2.2,v0_4_,v0_5_]]) Tryz.func132 z z (by simp) ?_
 refine rg (e_ z (y_boxS (cs:=#[pt f0_.p,.int .i64 a0.1.1,.int .i64 a0.1.2.1,.int .i64 a0.1.2.2,v0_4_,v0_5_]) H z (fun b1 w H=>(v_ z (sg (.slice none 0 0) z) (v_ z (sg (.bool false) z) (nl (rg (v_ z (r_faddr e_fa_223_0 z) (v_ z (r_faddr e_fa_218_0 z) (v_ z (r_load e_sc_79 z (blk_cell (H.get 1 z) z)) (v_ z (r_faddr e_fa_223_0 z) (v_ z (r_faddr e_fa_218_1 z) (v_ z (r_loadB (l:=[.int .i64 a0.1.1,.int .i64 a0.1.2.1,.int .i64 a0.1.2.2]) e_ag_24 (H.get 1 z) z z z) ?_)))))))))))))
 obtain ⟨x2,E3,E⟩:=bind_some E
 refine e_ z (y_callL e_en_184 z ((welch_Points.calls (H.get 0 z) E3).mono ?_))
 rintro _ w ⟨v4,v5,rfl,K⟩
 have H:=H.appX 0 z K
 refine ⟨_,z,(v_ z (r_move) (v_ z (r_extract z z) (v_ z (r_extract z z) (v_ z (sg v4 z) (v_ z (sg v5 z) (nl (rg (v_ z (sg (.slice none 0 0) z) (v_ z (sg (.slice none 0 0) z) (nl ?_))))))))))⟩
 refine wc_seqJ (fun t w=>∃ (k111 : Nat) (l107 : List (Int)) (l109 : List (Int)) (v106 : Value) (v108 : Value) (t110 : Fr),k111 ≤ k ∧ three_byPoints_do.j0 k111 a0 l107 l109 = some r ∧ t = upds t110 [(1,pt b1),(2,.slice none 0 0),(3,.bool false),(6,v108),(7,v106),(1000000,undef)] ∧ St (Rs.fld f0_).fp w0 w [.fld f0_,.blk b1 #[pt f0_.p,.int .i64 a0.1.1,.int .i64 a0.1.2.1,.int .i64 a0.1.2.2,v0_4_,v0_5_] 223,.own (.int .u8) 5 v4 x2.1,.own (.int .u8) 5 v5 x2.2,.own (.int .u8) 5 v106 l107,.own (.int .u8) 5 v108 l109]) ?_ ?_
 · refine rg (v_ z (mv v4 z) (v_ z (r_lenR e_ul_22 (own_rd (H.get 2 z)) z) (v_ z (mv (.int .i64 0) z) (nl (wc_block ?_)))))
   have H:=H.nilOwn (.int .u8) 5
   have H:=H.nilOwn (.int .u8) 5
   refine wc_loop (fun kk t w=>∃ (l158 : List (Int)) (l160 : List (Int)) (x161 : Int) (v157 : Value) (v159 : Value) (t186 : Fr),kk ≤ k ∧ three_byPoints_do.l0 kk a0 x2 l158 l160 x161 = some r ∧ t = upds t186 [(1,pt b1),(2,.slice none 0 0),(3,.bool false),(5,v5),(6,v159),(7,v157),(24,v4),(25,.int .i64 (x2.1.length : Int)),(26,.int .i64 x161),(1000000,undef)] ∧ St (Rs.fld f0_).fp w0 w [.fld f0_,.blk b1 #[pt f0_.p,.int .i64 a0.1.1,.int .i64 a0.1.2.1,.int .i64 a0.1.2.2,v0_4_,v0_5_] 223,.own (.int .u8) 5 v4 x2.1,.own (.int .u8) 5 v5 x2.2,.own (.int .u8) 5 v157 l158,.own (.int .u8) 5 v159 l160]) k ?_ ?_
   · exact ⟨_,_,_,_,_,_,Nat.le_refl _,E,upds_eq ⟨z,z,z,z,z,z,z,z,z,z,trivial⟩,H⟩
   rintro kk t w ⟨l158,l160,x161,v157,v159,t186,hk185,E,rfl,H⟩
   obtain ⟨k184,rfl⟩ | rfl : (∃ k',kk = k' + 1) ∨ kk = 0:=by cases kk; exact .inr rfl; exact .inl ⟨_,rfl⟩
   rotate_left
   · cases E
   rw [three_byPoints_do.l0] at E
   refine rg (v_ z (r_lss z z) (nl (wc_seq ?_)))
   refine wc_cond z (fun c188=>?_) (fun c188=>?_)
   · have E:=iT c188 E
     refine wc_skip (n_thn (wc_seq (wc_block (rg (v_ z (mv (.int .i64 x161) z) ?_)))))
     obtain ⟨⟨g189,g190⟩,E⟩:=grd_some E
     refine v_ z (r_idx e_sl_22 (own_rd (H.get 2 z)) z z g189 g190) (v_ z (r_ldI e_sc_5 (own_rd (H.get 2 z)) g189 g190 z) (v_ z (sg (.int .i64 x161) z) (v_ z (sg (.int .u8 (at_ 0 x2.1 x161)) z) (nl (wc_seq (rg (v_ z (r_faddr e_fa_223_0 z) (v_ z (r_faddr e_fa_218_3 z) (v_ z (r_load e_sc_45 z (blk_cell (H.get 1 z) z)) (v_ z (mv (.int .i64 x161) z) ?_))))))))))
     obtain ⟨x194,E195,E⟩:=bind_some E
     refine e_ z (y_callL e_en_185 z ((slices_Contains.calls (H.arg (H.rd h0_5)) E195).mono ?_))
     rintro _ w ⟨rfl,K⟩
     have H:=H.app K
     refine ⟨_,z,(nl ?_)⟩
     refine wc_cond z (fun c196=>?_) (fun c196=>?_)
     · have E:=iT c196 E
       refine wc_exit (x_thn (x_bk (n_thn (wc_region (v_ z (r_add z z) (v_ z (mv (.int .i64 (i64.wrap (x161 + 1))) z) (wl_nil ?_)))))))
       exact ⟨k184,Nat.lt_succ_self _,_,_,_,_,_,_,Nat.le_of_succ_le hk185,E,upds_eq ⟨z,z,z,z,z,z,z,z,z,z,trivial⟩,H⟩
     · have E:=iF c196 E
       refine wc_skip (n_thn (wc_seq (wc_drawnS (ds:=[]) e_mo H z z ?_)))
       have H:=H.drew
       refine wt 0 (tf 1 19) z z z (by kernel_rfl) H (fun w H=>(r_faddr e_fa_223_0 z)) (wt 1 (tf 2 19) z z z (by kernel_rfl) H (fun w H=>(r_faddr e_fa_218_0 z)) (wt 2 (tf 3 19) z z z (by kernel_rfl) H (fun w H=>(r_load e_sc_79 z (blk_cell (H.get 1 z) z))) (wt 3 (tf 4 19) z z z (by kernel_rfl) H (fun w H=>(r_faddr e_fa_223_0 z)) (wt 4 (tf 5 19) z z z (by kernel_rfl) H (fun w H=>(r_faddr e_fa_218_2 z)) (wt 5 (tf 6 19) z z z (by kernel_rfl) H (fun w H=>(r_load e_sc_22 z (blk_cell (H.get 1 z) z))) (wt 6 (tf 7 19) z z z (by kernel_rfl) H (fun w H=>(mv (.int .i64 x161) z)) ?_))))))
       obtain ⟨⟨g197,g198⟩,E⟩:=grd_some E
       refine wt 7 (tf 8 19) z z z (by kernel_rfl) H (fun w H=>(r_idx e_sl_22 (H.rd h0_4) z z g197 g198)) (wt 8 (tf 9 19) z z z (by kernel_rfl) H (fun w H=>(r_ldI e_sc_5 (H.rd h0_4) g197 g198 z)) (wt 9 (tf 10 19) z z z (by kernel_rfl) H (fun w H=>(mv v5 z)) (wt 10 (tf 11 19) z z z (by kernel_rfl) H (fun w H=>(mv (.int .i64 x161) z)) ?_)))
       obtain ⟨⟨g199,g200⟩,E⟩:=grd_some E
       refine wt 11 (tf 12 19) z z z (by kernel_rfl) H (fun w H=>(r_idx e_sl_22 (own_rd (H.get 3 z)) z z g199 g200)) (wt 12 (tf 13 19) z z z (by kernel_rfl) H (fun w H=>(r_ldI e_sc_5 (own_rd (H.get 3 z)) g199 g200 z)) ?_)
       obtain ⟨x201,E202,E⟩:=bind_some E
       refine wa_one (i:=13) (l':=(tf 14 19)) z z z (by kernel_rfl) (y_callL e_en_186 z ((field_Field_Div.calls (H.get 0 z) E202).mono ?_))
       rintro _ w ⟨rfl,K⟩
       have H:=H.appX 0 z K
       refine ⟨_,z,⟨fun _=>H.sel [0,1,2,3,4,5] z z,(wt 14 (tf 15 19) z z z (by kernel_rfl) (H.sel [0,1,2,3,4,5] z z) (fun w H=>(r_move)) (wt 15 (tf 16 19) z z z (by kernel_rfl) (H.sel [0,1,2,3,4,5] z z) (fun w H=>(r_extract z z)) (wt 16 (tf 17 19) z z z (by kernel_rfl) (H.sel [0,1,2,3,4,5] z z) (fun w H=>(r_extract z z)) (wt 17 (tf 18 19) z z z (by kernel_rfl) (H.sel [0,1,2,3,4,5] z z) (fun w H=>(sg (.int .u8 x201.1) z)) (wt 18 (tf 19 19) z z z (by kernel_rfl) (H.sel [0,1,2,3,4,5] z z) (fun w H=>(sg (.bool x201.2) z)) (wa_done (by kernel_rfl) (n_thn (wc_region (v_ z (mv v159 z) (v_ z (mv (.int .u8 (at_ 0 x2.1 x161)) z) (e_ z (y_bsL (e:=(.int .u8)) (l:=[at_ 0 x2.1 x161]) e_sl_22 H z (by decide) ⟨z,z,trivial⟩ (by decide) (fun v203 w H=>?_)))))))))))))⟩⟩
       obtain ⟨g205,E⟩:=grd_some E
       refine e_ z (y_app e_sl_22 H 5 z (own_rd (H.get 6 z)) z z (by omega) (by unfold maxLen; omega) (fun v204 w H=>(v_ z (mv v157 z) (v_ z (mv (.int .u8 x201.1) z) (e_ z (y_bsL (e:=(.int .u8)) (l:=[x201.1]) e_sl_22 H z (by decide) ⟨z,z,trivial⟩ (by decide) (fun v206 w H=>?_)))))))
       have H : St (Rs.fld f0_).fp w0 _ [.fld f0_,.blk b1 #[pt f0_.p,.int .i64 a0.1.1,.int .i64 a0.1.2.1,.int .i64 a0.1.2.2,v0_4_,v0_5_] 223,.own (.int .u8) 5 v4 x2.1,.own (.int .u8) 5 v5 x2.2,.own (.int .u8) 5 v157 l158,.own (.int .u8) 5 v204 (l160 ++ ([at_ 0 x2.1 x161])),.own (.int .u8) 5 v203 ([at_ 0 x2.1 x161]),.own (.int .u8) 5 v206 ([x201.1])]:=H
       obtain ⟨g208,E⟩:=grd_some E
       refine e_ z (y_app e_sl_22 H 4 z (own_rd (H.get 7 z)) z z (by omega) (by unfold maxLen; omega) (fun v207 w H=>(v_ z (sg v204 z) (v_ z (sg v207 z) (wl_nil (n_bk (n_thn (wc_region (v_ z (r_add z z) (v_ z (mv (.int .i64 (i64.wrap (x161 + 1))) z) (wl_nil ?_)))))))))))
       exact ⟨k184,Nat.lt_succ_self _,_,_,_,_,_,_,Nat.le_of_succ_le hk185,E,upds_eq ⟨z,z,z,z,z,z,z,z,z,z,trivial⟩,H.sel [0,1,2,3,4,5] z z⟩
   · have E:=iF c188 E
     refine wc_exit (x_thn (x_thn (x_bk ?_)))
     exact ⟨k184,_,_,_,_,_,by omega,E,upds_eq ⟨z,z,z,z,z,z,trivial⟩,H⟩
 rintro t w ⟨k111,l107,l109,v106,v108,t110,hk112,E,rfl,H⟩
 unfold three_byPoints_do.j0 at E
 refine rg (v_ z (r_faddr e_fa_223_0 z) (v_ z (r_faddr e_fa_218_0 z) (v_ z (r_load e_sc_79 z (blk_cell (H.get 1 z) z)) (v_ z (mv v108 z) (v_ z (mv v106 z) (v_ z (r_faddr e_fa_223_0 z) (v_ z (r_faddr e_fa_218_1 z) (v_ z (r_faddr e_fa_24_1 z) (v_ z (r_load e_sc_3 z (blk_cell (H.get 1 z) z)) ?_)))))))))
 obtain ⟨x209,E210,E⟩:=bind_some E
 refine e_ z (y_callL e_en_187 z ((welch_Fit.calls (H.get 0 z) (H.ownX 5 0 z z z (own_rd (H.get 5 z))) (H.ownX 4 0 z z z (own_rd (H.get 4 z))) E210).mono ?_))
 rintro _ w ⟨v211,rfl,K⟩
 have H:=H.appX 0 z K
 refine ⟨_,z,(v_ z (r_move) (v_ z (r_extract z z) (v_ z (r_extract z z) (v_ z (sg v211 z) (v_ z (sg (.bool x209.2) z) (nl (wc_seq (rg (v_ z (mv (.bool x209.2) z) (v_ z (r_not z) (nl ?_)))))))))))⟩
 refine wc_cond z (fun c213=>?_) (fun c213=>?_)
 · have E:=iT c213 E
   refine rg (v_ z (sg (.slice none 0 0) z) (v_ z (sg (.bool false) z) (nl (wc_ret ?_))))
   have H:=H.nilOwn (.int .u8) 5
   cases E
   exact (r_thn ⟨.inl z,_,tk0 z ⟨resN z (rv_t (rv_t rv_nil)),_,z,H.sub2 0 7 z z z⟩⟩)
 · have E:=iF c213 E
   refine wc_skip (n_thn (wc_seq (wc_drawnS (ds:=[]) e_mo H z z ?_)))
   have H:=H.drew
   refine wt 0 (tf 1 15) z z z (by kernel_rfl) H (fun w H=>(r_faddr e_fa_223_0 z)) (wt 1 (tf 2 15) z z z (by kernel_rfl) H (fun w H=>(r_loadB (l:=[pt f0_.p,.int .i64 a0.1.1,.int .i64 a0.1.2.1,.int .i64 a0.1.2.2,v0_4_,v0_5_]) e_ag_218 (H.get 1 z) z z z)) (wt 2 (tf 3 15) z z z (by kernel_rfl) H (fun w H=>(r_faddr e_fa_223_0 z)) (wt 3 (tf 4 15) z z z (by kernel_rfl) H (fun w H=>(r_faddr e_fa_218_0 z)) (wt 4 (tf 5 15) z z z (by kernel_rfl) H (fun w H=>(r_load e_sc_79 z (blk_cell (H.get 1 z) z))) (wt 5 (tf 6 15) z z z (by kernel_rfl) H (fun w H=>(r_faddr e_fa_223_0 z)) (wt 6 (tf 7 15) z z z (by kernel_rfl) H (fun w H=>(r_faddr e_fa_218_1 z)) (wt 7 (tf 8 15) z z z (by kernel_rfl) H (fun w H=>(r_loadB (l:=[.int .i64 a0.1.1,.int .i64 a0.1.2.1,.int .i64 a0.1.2.2]) e_ag_24 (H.get 1 z) z z z)) (wt 8 (tf 9 15) z z z (by kernel_rfl) H (fun w H=>(mv v211 z)) ?_))))))))
   obtain ⟨x214,E215,E⟩:=bind_some E
   refine wa_one (i:=9) (l':=(tf 10 15)) z z z (by kernel_rfl) (y_callL e_en_189 z ((welch_Rebuild.calls (H.get 0 z) (H.ownX 6 0 z z z (own_rd (H.get 6 z))) E215).mono ?_))
   rintro _ w ⟨v216,rfl,K⟩
   have H:=H.appX 0 z K
   refine ⟨_,z,⟨fun _=>H.sel [0,1,2,3,4,5,6] z z,(wa_one (i:=10) (l':=(tf 11 15)) z z z (by kernel_rfl) (y_in 18 [.agg #[pt f0_.p,.int .i64 a0.1.1,.int .i64 a0.1.2.1,.int .i64 a0.1.2.2,v0_4_,v0_5_],v216] e_en_188 Tryz.func188 z z z z (rg (e_ z (y_boxS (cs:=#[pt f0_.p,.int .i64 a0.1.1,.int .i64 a0.1.2.1,.int .i64 a0.1.2.2,v0_4_,v0_5_]) H z (fun b221 w H=>(v_ z (sg (.slice none 0 0) z) (v_ z (sg (.bool false) z) (nl (wc_seq (rg (v_ z (r_faddr e_fa_218_0 z) (v_ z (r_load e_sc_79 z (blk_cell (H.get 8 z) z)) (v_ z (r_faddr e_fa_218_1 z) (v_ z (r_loadB (l:=[.int .i64 a0.1.1,.int .i64 a0.1.2.1,.int .i64 a0.1.2.2]) e_ag_24 (H.get 8 z) z z z) (v_ z (r_faddr e_fa_218_2 z) (v_ z (r_load e_sc_22 z (blk_cell (H.get 8 z) z)) (v_ z (r_faddr e_fa_218_3 z) (v_ z (r_load e_sc_45 z (blk_cell (H.get 8 z) z)) (v_ z (mv v216 z) ?_))))))))))))))))))))⟩⟩
   obtain ⟨x222,E223,E⟩:=bind_some E
   refine e_ z (y_callL e_en_247 z ((check_Accept.calls (H.get 0 z) (H.argX 0 z (H.rd h0_4)) (H.argX 0 z (H.rd h0_5)) (H.ownX 7 0 z z z (own_rd (H.get 7 z))) E223).mono ?_))
   rintro _ w ⟨rfl,K⟩
   have H:=H.appX 0 z K
   refine ⟨_,z,(v_ z (r_not z) (nl ?_))⟩
   refine wc_cond z (fun c224=>?_) (fun c224=>?_)
   · have E:=iT c224 E
     refine rg (v_ z (sg (.slice none 0 0) z) (v_ z (sg (.bool false) z) (nl (wc_ret ((r_thn ⟨.inl z,.tuple #[.slice none 0 0,.bool false],tk0 z ⟨resM z (rv_t (rv_t rv_nil)) z,(⟨fun _=>H.sel [0,1,2,3,4,5,6] z z,(wt 11 (tf 12 15) z z z (by kernel_rfl) (H.sel [0,1,2,3,4,5,6] z z) (fun w H=>(r_extract z z)) (wt 12 (tf 13 15) z z z (by kernel_rfl) (H.sel [0,1,2,3,4,5,6] z z) (fun w H=>(r_extract z z)) (wt 13 (tf 14 15) z z z (by kernel_rfl) (H.sel [0,1,2,3,4,5,6] z z) (fun w H=>(sg (.slice none 0 0) z)) (wt 14 (tf 15 15) z z z (by kernel_rfl) (H.sel [0,1,2,3,4,5,6] z z) (fun w H=>(sg (.bool false) z)) (wa_done (by kernel_rfl) (n_thn (wc_ret ?_)))))))⟩)⟩⟩))))))
     have H:=H.nilOwn (.int .u8) 5
     cases E
     exact ⟨.inl z,_,tk0 z ⟨resN z (rv_t (rv_t rv_nil)),_,z,H.sub2 0 9 z z z⟩⟩
   · have E:=iF c224 E
     refine wc_skip (n_thn (rg (v_ z (mv v216 z) (v_ z (sg v216 z) (v_ z (sg (.bool true) z) (nl (wc_ret (⟨.inl z,.tuple #[v216,.bool true],tk0 z ⟨resM z (rv_t (rv_t rv_nil)) z,(⟨fun _=>H.sel [0,1,2,3,4,5,6] z z,(wt 11 (tf 12 15) z z z (by kernel_rfl) (H.sel [0,1,2,3,4,5,6] z z) (fun w H=>(r_extract z z)) (wt 12 (tf 13 15) z z z (by kernel_rfl) (H.sel [0,1,2,3,4,5,6] z z) (fun w H=>(r_extract z z)) (wa_oneV (i:=13) (l':=(tf 14 15)) z z z (by kernel_rfl) ((H.sel [0,1,2,3,4,5,6] z z)) (sg v216 z) (wt 14 (tf 15 15) z z z (by kernel_rfl) (H.sel [0,1,2,3,4,5,6] z z) (fun w H=>(sg (.bool true) z)) (wa_done (by kernel_rfl) (n_thn (wc_ret ?_)))))))⟩)⟩⟩))))))))
     cases E
     exact ⟨.inl z,_,tk0 z ⟨resN z (rv_t (rv_t rv_nil)),_,z,H.sub2 0 7 z z z⟩⟩
def three_job_may.f (k : Nat) (a0 : (Int × Int × Int) × List Int × List Int) : Option (Bool):=(synd_Erasures.f k (a0.1.1,a0.1.2.1,a0.1.2.2) a0.2.2).bind fun x2=>bif decide (x2 = 0) then (bif decide ((a0.2.1.length : Int) = a0.1.1) then ((code_Space.f (a0.1.1,a0.1.2.1,a0.1.2.2)).bind fun x6=>some (decide ((a0.2.2.length : Int) ≤ x6))) else (some false)) else (some false)
theorem three_job_may.calls {w0 : World} {k : Nat} {f0_ : FD} {a0 : (Int × Int × Int) × List Int × List Int} {v0_4_ : Value} {v0_5_ : Value} {r : Bool} (hf : (Rs.fld f0_).inv w0) (h0_4 : Rd (.of (.int .u8)) w0 (Ol (Rs.fld f0_).fp w0) v0_4_ a0.2.1) (h0_5 : Rd (.of (.int .i64)) w0 (Ol (Rs.fld f0_).fp w0) v0_5_ a0.2.2) (E : three_job_may.f k a0 = some r) :
   Calls Tryz.prog 133 #[.agg #[pt f0_.p,.int .i64 a0.1.1,.int .i64 a0.1.2.1,.int .i64 a0.1.2.2,v0_4_,v0_5_]] w0 fun e w'=>e = .returned (.bool r) ∧ St (Rs.fld f0_).fp w0 w' [.fld f0_]:=by
 have H:=St.start hf
 unfold three_job_may.f at E
 refine calls_of_wc (N:=32) (args:=[.agg #[pt f0_.p,.int .i64 a0.1.1,.int .i64 a0.1.2.1,.int .i64 a0.1.2.2,v0_4_,v0_5_]]) Tryz.func133 z z (by simp) ?_
 refine rg (e_ z (y_boxS (cs:=#[pt f0_.p,.int .i64 a0.1.1,.int .i64 a0.1.2.1,.int .i64 a0.1.2.2,v0_4_,v0_5_]) H z (fun b1 w H=>(v_ z (sg (.bool false) z) (nl (wc_seq (wc_drawnS (ds:=[]) e_mo H z z ?_)))))))
 have H:=H.drew
 refine wt 0 (tf 1 30) z z z (by kernel_rfl) H (fun w H=>(r_faddr e_fa_218_0 z)) (wt 1 (tf 2 30) z z z (by kernel_rfl) H (fun w H=>(r_load e_sc_79 z (blk_cell (H.get 1 z) z))) (wt 2 (tf 3 30) z z z (by kernel_rfl) H (fun w H=>(r_pneq0 Tryz.underlying79 z z)) (wt 3 (tf 4 30) z z z (by kernel_rfl) H (fun w H=>(mv (.bool true) z)) (wa_takeOn (i:=4) (l':=(tf 5 30)) z z z z z (by kernel_rfl) H (fun w H=>(r_faddr e_fa_218_1 z)) (wa_takeOn (i:=5) (l':=(tf 6 30)) z z z z z (by kernel_rfl) H (fun w H=>(r_loadB (l:=[.int .i64 a0.1.1,.int .i64 a0.1.2.1,.int .i64 a0.1.2.2]) e_ag_24 (H.get 1 z) z z z)) (wa_takeOn (i:=6) (l':=(tf 7 30)) z z z z z (by kernel_rfl) H (fun w H=>(r_faddr e_fa_218_3 z)) (wa_takeOn (i:=7) (l':=(tf 8 30)) z z z z z (by kernel_rfl) H (fun w H=>(r_load e_sc_45 z (blk_cell (H.get 1 z) z))) ?_)))))))
 obtain ⟨x2,E3,E⟩:=bind_some E
 refine wa_oneOn (i:=8) (l':=(tf 9 30)) z z z z z (by kernel_rfl) (y_callL e_en_73 z ((synd_Erasures.calls (H.arg (H.rd h0_5)) E3).mono ?_))
 rintro _ w ⟨rfl,K⟩
 have H:=H.app K
 refine ⟨_,z,⟨fun _=>H.sel [0,1] z z,(wa_takeOn (i:=9) (l':=(tf 10 30)) z z z z z (by kernel_rfl) (H.sel [0,1] z z) (fun w H=>(r_eql z z)) (wt 10 (tf 11 30) z z z (by kernel_rfl) (H.sel [0,1] z z) (fun w H=>(pT (.bool (decide (x2 = 0))) z z z)) (wt 11 (tf 12 30) z z z (by kernel_rfl) (H.sel [0,1] z z) (fun w H=>(mv (.bool (decide (x2 = 0))) z)) ?_)))⟩⟩
 rcases Bool.eq_false_or_eq_true (decide (x2 = 0)) with c4 | c4
 · have E:=iT c4 E
   refine wa_takeOn (i:=12) (l':=(tf 13 30)) z z z c4 z (by kernel_rfl) (H.sel [0,1] z z) (fun w H=>(r_faddr e_fa_218_2 z)) (wa_takeOn (i:=13) (l':=(tf 14 30)) z z z c4 z (by kernel_rfl) (H.sel [0,1] z z) (fun w H=>(r_load e_sc_22 z (blk_cell (H.get 1 z) z))) (wa_takeOn (i:=14) (l':=(tf 15 30)) z z z c4 z (by kernel_rfl) (H.sel [0,1] z z) (fun w H=>(r_lenR e_ul_22 (H.rd h0_4) z)) (wa_takeOn (i:=15) (l':=(tf 16 30)) z z z c4 z (by kernel_rfl) (H.sel [0,1] z z) (fun w H=>(r_faddr e_fa_218_1 z)) (wa_takeOn (i:=16) (l':=(tf 17 30)) z z z c4 z (by kernel_rfl) (H.sel [0,1] z z) (fun w H=>(r_faddr e_fa_24_0 z)) (wa_takeOn (i:=17) (l':=(tf 18 30)) z z z c4 z (by kernel_rfl) (H.sel [0,1] z z) (fun w H=>(r_load e_sc_3 z (blk_cell (H.get 1 z) z))) (wa_takeOn (i:=18) (l':=(tf 19 30)) z z z c4 z (by kernel_rfl) (H.sel [0,1] z z) (fun w H=>(r_eql z z)) (wt 19 (tf 20 30) z z z (by kernel_rfl) (H.sel [0,1] z z) (fun w H=>(pT (.bool (decide ((a0.2.1.length : Int) = a0.1.1))) z z c4)) (wt 20 (tf 21 30) z z z (by kernel_rfl) (H.sel [0,1] z z) (fun w H=>(mv (.bool (decide ((a0.2.1.length : Int) = a0.1.1))) z)) ?_))))))))
   rcases Bool.eq_false_or_eq_true (decide ((a0.2.1.length : Int) = a0.1.1)) with c5 | c5
   · have E:=iT c5 E
     refine wa_takeOn (i:=21) (l':=(tf 22 30)) z z z c5 z (by kernel_rfl) (H.sel [0,1] z z) (fun w H=>(r_faddr e_fa_218_3 z)) (wa_takeOn (i:=22) (l':=(tf 23 30)) z z z c5 z (by kernel_rfl) (H.sel [0,1] z z) (fun w H=>(r_load e_sc_45 z (blk_cell (H.get 1 z) z))) (wa_takeOn (i:=23) (l':=(tf 24 30)) z z z c5 z (by kernel_rfl) (H.sel [0,1] z z) (fun w H=>(r_lenR e_ul_45 (H.rd h0_5) z)) (wa_takeOn (i:=24) (l':=(tf 25 30)) z z z c5 z (by kernel_rfl) (H.sel [0,1] z z) (fun w H=>(r_faddr e_fa_218_1 z)) (wa_takeOn (i:=25) (l':=(tf 26 30)) z z z c5 z (by kernel_rfl) (H.sel [0,1] z z) (fun w H=>(r_loadB (l:=[.int .i64 a0.1.1,.int .i64 a0.1.2.1,.int .i64 a0.1.2.2]) e_ag_24 (H.get 1 z) z z z)) ?_))))
     obtain ⟨x6,E7,E⟩:=bind_some E
     refine wa_oneOn (i:=26) (l':=(tf 27 30)) z z z c5 z (by kernel_rfl) (y_callL e_en_113 z ((code_Space.calls E7).mono ?_))
     rintro _ w ⟨rfl,K⟩
     have H:=H.app K
     refine ⟨_,z,⟨fun _=>H.sel [0,1] z z,(wa_takeOn (i:=27) (l':=(tf 28 30)) z z z c5 z (by kernel_rfl) (H.sel [0,1] z z) (fun w H=>(r_leq z z)) (wt 28 (tf 29 30) z z z (by kernel_rfl) (H.sel [0,1] z z) (fun w H=>(pT (.bool (decide ((a0.2.2.length : Int) ≤ x6))) z z c5)) (wt 29 (tf 30 30) z z z (by kernel_rfl) (H.sel [0,1] z z) (fun w H=>(sg (.bool (decide ((a0.2.2.length : Int) ≤ x6))) z)) (wa_done (by kernel_rfl) (n_thn (wc_ret ?_))))))⟩⟩
     cases E
     exact ⟨.inl z,_,tk0 z ⟨resN z (rv_t rv_nil),z,H.sub1 0 z⟩⟩
   · have E:=iF c5 E
     refine wa_off (i:=21) (l':=(tf 22 30)) z z z c5 z z (by kernel_rfl) (H.sel [0,1] z z) (wa_off (i:=22) (l':=(tf 23 30)) z z z c5 z z (by kernel_rfl) (H.sel [0,1] z z) (wa_off (i:=23) (l':=(tf 24 30)) z z z c5 z z (by kernel_rfl) (H.sel [0,1] z z) (wa_off (i:=24) (l':=(tf 25 30)) z z z c5 z z (by kernel_rfl) (H.sel [0,1] z z) (wa_off (i:=25) (l':=(tf 26 30)) z z z c5 z z (by kernel_rfl) (H.sel [0,1] z z) (wa_off (i:=26) (l':=(tf 27 30)) z z z c5 z z (by kernel_rfl) (H.sel [0,1] z z) (wa_off (i:=27) (l':=(tf 28 30)) z z z c5 z z (by kernel_rfl) (H.sel [0,1] z z) (wt 28 (tf 29 30) z z z (by kernel_rfl) (H.sel [0,1] z z) (fun w H=>(pF (.bool false) z z c5)) (wt 29 (tf 30 30) z z z (by kernel_rfl) (H.sel [0,1] z z) (fun w H=>(sg (.bool false) z)) (wa_done (by kernel_rfl) (n_thn (wc_ret ?_)))))))))))
     cases E
     exact ⟨.inl z,_,tk0 z ⟨resN z (rv_t rv_nil),z,H.sub1 0 z⟩⟩
 · have E:=iF c4 E
   refine wa_off (i:=12) (l':=(tf 13 30)) z z z c4 z z (by kernel_rfl) (H.sel [0,1] z z) (wa_off (i:=13) (l':=(tf 14 30)) z z z c4 z z (by kernel_rfl) (H.sel [0,1] z z) (wa_off (i:=14) (l':=(tf 15 30)) z z z c4 z z (by kernel_rfl) (H.sel [0,1] z z) (wa_off (i:=15) (l':=(tf 16 30)) z z z c4 z z (by kernel_rfl) (H.sel [0,1] z z) (wa_off (i:=16) (l':=(tf 17 30)) z z z c4 z z (by kernel_rfl) (H.sel [0,1] z z) (wa_off (i:=17) (l':=(tf 18 30)) z z z c4 z z (by kernel_rfl) (H.sel [0,1] z z) (wa_off (i:=18) (l':=(tf 19 30)) z z z c4 z z (by kernel_rfl) (H.sel [0,1] z z) (wt 19 (tf 20 30) z z z (by kernel_rfl) (H.sel [0,1] z z) (fun w H=>(pF (.bool false) z z c4)) (wt 20 (tf 21 30) z z z (by kernel_rfl) (H.sel [0,1] z z) (fun w H=>(mv (.bool false) z)) (wa_off (i:=21) (l':=(tf 22 30)) z z z z z z (by kernel_rfl) (H.sel [0,1] z z) (wa_off (i:=22) (l':=(tf 23 30)) z z z z z z (by kernel_rfl) (H.sel [0,1] z z) (wa_off (i:=23) (l':=(tf 24 30)) z z z z z z (by kernel_rfl) (H.sel [0,1] z z) (wa_off (i:=24) (l':=(tf 25 30)) z z z z z z (by kernel_rfl) (H.sel [0,1] z z) (wa_off (i:=25) (l':=(tf 26 30)) z z z z z z (by kernel_rfl) (H.sel [0,1] z z) (wa_off (i:=26) (l':=(tf 27 30)) z z z z z z (by kernel_rfl) (H.sel [0,1] z z) (wa_off (i:=27) (l':=(tf 28 30)) z z z z z z (by kernel_rfl) (H.sel [0,1] z z) (wt 28 (tf 29 30) z z z (by kernel_rfl) (H.sel [0,1] z z) (fun w H=>(pF (.bool false) z z z)) (wt 29 (tf 30 30) z z z (by kernel_rfl) (H.sel [0,1] z z) (fun w H=>(sg (.bool false) z)) (wa_done (by kernel_rfl) (n_thn (wc_ret ?_))))))))))))))))))))
   cases E
   exact ⟨.inl z,_,tk0 z ⟨resN z (rv_t rv_nil),z,H.sub1 0 z⟩⟩
def three_By.f (k : Nat) (a0 : Int) (a2 : Int × Int × Int) (a3 : List Int) (a4 : List Int) : Option (List Int × Bool):=bif decide (a0 = 1) then ((three_job_may.f k ((a2.1,a2.2.1,a2.2.2),a3,a4)).bind fun x14=>bif !x14 then (some (([] : List (Int)),false)) else ((three_byRegister_do.f k ((a2.1,a2.2.1,a2.2.2),a3,a4)).bind fun x17=>some (x17.1,x17.2))) else (bif decide (a0 = 2) then ((three_job_may.f k ((a2.1,a2.2.1,a2.2.2),a3,a4)).bind fun x24=>bif !x24 then (some (([] : List (Int)),false)) else ((three_byRemainder_do.f k ((a2.1,a2.2.1,a2.2.2),a3,a4)).bind fun x27=>some (x27.1,x27.2))) else (bif decide (a0 = 3) then ((three_job_may.f k ((a2.1,a2.2.1,a2.2.2),a3,a4)).bind fun x34=>bif !x34 then (some (([] : List (Int)),false)) else ((three_byPoints_do.f k ((a2.1,a2.2.1,a2.2.2),a3,a4)).bind fun x37=>some (x37.1,x37.2))) else (some (([] : List (Int)),false))))
theorem three_By.calls {w0 : World} {k : Nat} {f1_ : FD} {a0 : Int} {a2 : Int × Int × Int} {a3 : List Int} {a4 : List Int} {v3_ : Value} {v4_ : Value} {r : List Int × Bool} (hf : (Rs.fld f1_).inv w0) (h3 : Rd (.of (.int .u8)) w0 (Ol (Rs.fld f1_).fp w0) v3_ a3) (h4 : Rd (.of (.int .i64)) w0 (Ol (Rs.fld f1_).fp w0) v4_ a4) (E : three_By.f k a0 a2 a3 a4 = some r) :
   Calls Tryz.prog 75 #[.int .i64 a0,pt f1_.p,.agg #[.int .i64 a2.1,.int .i64 a2.2.1,.int .i64 a2.2.2],v3_,v4_] w0 fun e w'=>∃ (u0 : Value),e = .returned (.tuple #[u0,.bool r.2]) ∧ St (Rs.fld f1_).fp w0 w' [.fld f1_,.own (.int .u8) 5 u0 r.1]:=by
 have H:=St.start hf
 unfold three_By.f at E
 refine calls_of_wc (N:=43) (args:=[.int .i64 a0,pt f1_.p,.agg #[.int .i64 a2.1,.int .i64 a2.2.1,.int .i64 a2.2.2],v3_,v4_]) Tryz.func75 z z (by simp) ?_
 refine rg (e_ z (y_boxS (cs:=#[.int .i64 a2.1,.int .i64 a2.2.1,.int .i64 a2.2.2]) H z (fun b1 w H=>(v_ z (sg (.slice none 0 0) z) (v_ z (sg (.bool false) z) (nl (rg (v_ z (mv (pt f1_.p) z) (v_ z (r_loadB (l:=[.int .i64 a2.1,.int .i64 a2.2.1,.int .i64 a2.2.2]) e_ag_24 (H.get 1 z) z z z) (v_ z (mv v3_ z) (v_ z (mv v4_ z) ?_)))))))))))
 obtain ⟨p2,n3,c4,rfl⟩:=rd_form h3
 obtain ⟨p5,n6,c7,rfl⟩:=rd_form h4
 refine v_ z (r_build (cs:=[pt f1_.p,.int .i64 a2.1,.int .i64 a2.2.1,.int .i64 a2.2.2,(.slice p2 n3 c4),(.slice p5 n6 c7)]) e_bd_218 (by kernel_rfl)) (e_ z (y_allocS e_zr_218 H (fun b8 w H=>(s_ (y_storeBA e_sz_218 H 2 z z z z z z (fun w H=>(nl (rg (e_ z (y_mkMf H (fun b9 w H=>(v_ z (r_loadB (l:=[pt f1_.p,.int .i64 a2.1,.int .i64 a2.2.1,.int .i64 a2.2.2,(.slice p2 n3 c4),(.slice p5 n6 c7)]) e_ag_218 (H.get 2 z) z z z) (v_ z (r_build (cs:=[pt f1_.p,.int .i64 a2.1,.int .i64 a2.2.1,.int .i64 a2.2.2,(.slice p2 n3 c4),(.slice p5 n6 c7)]) e_bd_221 (by kernel_rfl)) (v_ z (r_mkF [.agg #[pt f1_.p,.int .i64 a2.1,.int .i64 a2.2.1,.int .i64 a2.2.2,(.slice p2 n3 c4),(.slice p5 n6 c7)]] [] z z) (s_ (y_insI (v:=.func (.func 130) #[.agg #[pt f1_.p,.int .i64 a2.1,.int .i64 a2.2.1,.int .i64 a2.2.2,(.slice p2 n3 c4),(.slice p5 n6 c7)]] #[]) Tryz.underlying3 Tryz.underlying224 H 3 z z z z (by kernel_rfl) (fun w H=>?_)))))))))))))))))
 have H : St (Rs.fld f1_).fp w0 _ [.fld f1_,.blk b1 #[.int .i64 a2.1,.int .i64 a2.2.1,.int .i64 a2.2.2] 24,.blk b8 #[pt f1_.p,.int .i64 a2.1,.int .i64 a2.2.1,.int .i64 a2.2.2,(.slice p2 n3 c4),(.slice p5 n6 c7)] 218,.mf b9 [(.int .i64 1,.func (.func 130) #[.agg #[pt f1_.p,.int .i64 a2.1,.int .i64 a2.2.1,.int .i64 a2.2.2,(.slice p2 n3 c4),(.slice p5 n6 c7)]] #[])]]:=H
 refine v_ z (r_loadB (l:=[pt f1_.p,.int .i64 a2.1,.int .i64 a2.2.1,.int .i64 a2.2.2,(.slice p2 n3 c4),(.slice p5 n6 c7)]) e_ag_218 (H.get 2 z) z z z) (v_ z (r_build (cs:=[pt f1_.p,.int .i64 a2.1,.int .i64 a2.2.1,.int .i64 a2.2.2,(.slice p2 n3 c4),(.slice p5 n6 c7)]) e_bd_222 (by kernel_rfl)) (v_ z (r_mkF [.agg #[pt f1_.p,.int .i64 a2.1,.int .i64 a2.2.1,.int .i64 a2.2.2,(.slice p2 n3 c4),(.slice p5 n6 c7)]] [] z z) (s_ (y_insI (v:=.func (.func 131) #[.agg #[pt f1_.p,.int .i64 a2.1,.int .i64 a2.2.1,.int .i64 a2.2.2,(.slice p2 n3 c4),(.slice p5 n6 c7)]] #[]) Tryz.underlying3 Tryz.underlying224 H 3 z z z z (by kernel_rfl) (fun w H=>(v_ z (r_loadB (l:=[pt f1_.p,.int .i64 a2.1,.int .i64 a2.2.1,.int .i64 a2.2.2,(.slice p2 n3 c4),(.slice p5 n6 c7)]) e_ag_218 (H.get 2 z) z z z) (v_ z (r_build (cs:=[pt f1_.p,.int .i64 a2.1,.int .i64 a2.2.1,.int .i64 a2.2.2,(.slice p2 n3 c4),(.slice p5 n6 c7)]) e_bd_223 (by kernel_rfl)) (v_ z (r_mkF [.agg #[pt f1_.p,.int .i64 a2.1,.int .i64 a2.2.1,.int .i64 a2.2.2,(.slice p2 n3 c4),(.slice p5 n6 c7)]] [] z z) (s_ (y_insI (v:=.func (.func 132) #[.agg #[pt f1_.p,.int .i64 a2.1,.int .i64 a2.2.1,.int .i64 a2.2.2,(.slice p2 n3 c4),(.slice p5 n6 c7)]] #[]) Tryz.underlying3 Tryz.underlying224 H 3 z z z z (by kernel_rfl) (fun w H=>(v_ z (mv (.map (some b9)) z) (v_ z (mv (.int .i64 a0) z) ?_)))))))))))))
 rcases Bool.eq_false_or_eq_true (decide (a0 = 1)) with c10 | c10
 · have E:=iT c10 E
   refine v_ z (r_lkI Tryz.underlying3 Tryz.underlying224 e_zf_219 (H.get 3 z) z z z (by simp only [List.nil_append,List.cons_append,lkI,c10,cond_true,cond_false])) (v_ z (sg (.func (.func 130) #[.agg #[pt f1_.p,.int .i64 a2.1,.int .i64 a2.2.1,.int .i64 a2.2.2,(.slice p2 n3 c4),(.slice p5 n6 c7)]] #[]) z) (nl (wc_seq (rg (v_ z (mv (.func (.func 130) #[.agg #[pt f1_.p,.int .i64 a2.1,.int .i64 a2.2.1,.int .i64 a2.2.2,(.slice p2 n3 c4),(.slice p5 n6 c7)]] #[]) z) (v_ z (r_feql1 Tryz.underlying219 z z z) (v_ z (mv (.bool false) z) (on_ z z z (r_loadB (l:=[pt f1_.p,.int .i64 a2.1,.int .i64 a2.2.1,.int .i64 a2.2.2,(.slice p2 n3 c4),(.slice p5 n6 c7)]) e_ag_218 (H.get 2 z) z z z) ?_))))))))
   obtain ⟨x14,E15,E⟩:=bind_some E
   refine wl_on z z z (y_callL e_en_133 z ((three_job_may.calls (H.get 0 z) (H.argX 0 z (H.rd h3)) (H.argX 0 z (H.rd h4)) E15).mono ?_))
   rintro _ w ⟨rfl,K⟩
   have H:=H.appX 0 z K
   refine ⟨_,z,(on_ z z z (r_not z) (v_ z (pF (.bool (!x14)) z z z) (nl ?_)))⟩
   refine wc_cond z (fun c16=>?_) (fun c16=>?_)
   · have E:=iT c16 E
     refine rg (v_ z (sg (.slice none 0 0) z) (v_ z (sg (.bool false) z) (nl (wc_ret ?_))))
     have H:=H.nilOwn (.int .u8) 5
     cases E
     exact (r_thn ⟨.inl z,_,tk0 z ⟨resN z (rv_t (rv_t rv_nil)),_,z,H.sub2 0 4 z z z⟩⟩)
   · have E:=iF c16 E
     refine wc_skip (n_thn (rg (v_ z (mv (.func (.func 130) #[.agg #[pt f1_.p,.int .i64 a2.1,.int .i64 a2.2.1,.int .i64 a2.2.2,(.slice p2 n3 c4),(.slice p5 n6 c7)]] #[]) z) ?_)))
     obtain ⟨x17,E18,E⟩:=bind_some E
     refine e_ z (y_callvF z e_en_130 z ((three_byRegister_do.calls (H.get 0 z) (H.argX 0 z (H.rd h3)) (H.argX 0 z (H.rd h4)) E18).mono ?_))
     rintro _ w ⟨v19,rfl,K⟩
     have H:=H.appX 0 z K
     refine ⟨_,z,(v_ z (r_extract z z) (v_ z (r_extract z z) (v_ z (sg v19 z) (v_ z (sg (.bool x17.2) z) (nl (wc_ret ?_))))))⟩
     cases E
     exact ⟨.inl z,_,tk0 z ⟨resN z (rv_t (rv_t rv_nil)),_,z,H.sub2 0 4 z z z⟩⟩
 · have E:=iF c10 E
   rcases Bool.eq_false_or_eq_true (decide (a0 = 2)) with c20 | c20
   · have E:=iT c20 E
     refine v_ z (r_lkI Tryz.underlying3 Tryz.underlying224 e_zf_219 (H.get 3 z) z z z (by simp only [List.nil_append,List.cons_append,lkI,c10,c20,cond_true,cond_false])) (v_ z (sg (.func (.func 131) #[.agg #[pt f1_.p,.int .i64 a2.1,.int .i64 a2.2.1,.int .i64 a2.2.2,(.slice p2 n3 c4),(.slice p5 n6 c7)]] #[]) z) (nl (wc_seq (rg (v_ z (mv (.func (.func 131) #[.agg #[pt f1_.p,.int .i64 a2.1,.int .i64 a2.2.1,.int .i64 a2.2.2,(.slice p2 n3 c4),(.slice p5 n6 c7)]] #[]) z) (v_ z (r_feql1 Tryz.underlying219 z z z) (v_ z (mv (.bool false) z) (on_ z z z (r_loadB (l:=[pt f1_.p,.int .i64 a2.1,.int .i64 a2.2.1,.int .i64 a2.2.2,(.slice p2 n3 c4),(.slice p5 n6 c7)]) e_ag_218 (H.get 2 z) z z z) ?_))))))))
     obtain ⟨x24,E25,E⟩:=bind_some E
     refine wl_on z z z (y_callL e_en_133 z ((three_job_may.calls (H.get 0 z) (H.argX 0 z (H.rd h3)) (H.argX 0 z (H.rd h4)) E25).mono ?_))
     rintro _ w ⟨rfl,K⟩
     have H:=H.appX 0 z K
     refine ⟨_,z,(on_ z z z (r_not z) (v_ z (pF (.bool (!x24)) z z z) (nl ?_)))⟩
     refine wc_cond z (fun c26=>?_) (fun c26=>?_)
     · have E:=iT c26 E
       refine rg (v_ z (sg (.slice none 0 0) z) (v_ z (sg (.bool false) z) (nl (wc_ret ?_))))
       have H:=H.nilOwn (.int .u8) 5
       cases E
       exact (r_thn ⟨.inl z,_,tk0 z ⟨resN z (rv_t (rv_t rv_nil)),_,z,H.sub2 0 4 z z z⟩⟩)
     · have E:=iF c26 E
       refine wc_skip (n_thn (rg (v_ z (mv (.func (.func 131) #[.agg #[pt f1_.p,.int .i64 a2.1,.int .i64 a2.2.1,.int .i64 a2.2.2,(.slice p2 n3 c4),(.slice p5 n6 c7)]] #[]) z) ?_)))
       obtain ⟨x27,E28,E⟩:=bind_some E
       refine e_ z (y_callvF z e_en_131 z ((three_byRemainder_do.calls (H.get 0 z) (H.argX 0 z (H.rd h3)) (H.argX 0 z (H.rd h4)) E28).mono ?_))
       rintro _ w ⟨v29,rfl,K⟩
       have H:=H.appX 0 z K
       refine ⟨_,z,(v_ z (r_extract z z) (v_ z (r_extract z z) (v_ z (sg v29 z) (v_ z (sg (.bool x27.2) z) (nl (wc_ret ?_))))))⟩
       cases E
       exact ⟨.inl z,_,tk0 z ⟨resN z (rv_t (rv_t rv_nil)),_,z,H.sub2 0 4 z z z⟩⟩
   · have E:=iF c20 E
     rcases Bool.eq_false_or_eq_true (decide (a0 = 3)) with c30 | c30
     · have E:=iT c30 E
       refine v_ z (r_lkI Tryz.underlying3 Tryz.underlying224 e_zf_219 (H.get 3 z) z z z (by simp only [List.nil_append,List.cons_append,lkI,c10,c20,c30,cond_true,cond_false])) (v_ z (sg (.func (.func 132) #[.agg #[pt f1_.p,.int .i64 a2.1,.int .i64 a2.2.1,.int .i64 a2.2.2,(.slice p2 n3 c4),(.slice p5 n6 c7)]] #[]) z) (nl (wc_seq (rg (v_ z (mv (.func (.func 132) #[.agg #[pt f1_.p,.int .i64 a2.1,.int .i64 a2.2.1,.int .i64 a2.2.2,(.slice p2 n3 c4),(.slice p5 n6 c7)]] #[]) z) (v_ z (r_feql1 Tryz.underlying219 z z z) (v_ z (mv (.bool false) z) (on_ z z z (r_loadB (l:=[pt f1_.p,.int .i64 a2.1,.int .i64 a2.2.1,.int .i64 a2.2.2,(.slice p2 n3 c4),(.slice p5 n6 c7)]) e_ag_218 (H.get 2 z) z z z) ?_))))))))
       obtain ⟨x34,E35,E⟩:=bind_some E
       refine wl_on z z z (y_callL e_en_133 z ((three_job_may.calls (H.get 0 z) (H.argX 0 z (H.rd h3)) (H.argX 0 z (H.rd h4)) E35).mono ?_))
       rintro _ w ⟨rfl,K⟩
       have H:=H.appX 0 z K
       refine ⟨_,z,(on_ z z z (r_not z) (v_ z (pF (.bool (!x34)) z z z) (nl ?_)))⟩
       refine wc_cond z (fun c36=>?_) (fun c36=>?_)
       · have E:=iT c36 E
         refine rg (v_ z (sg (.slice none 0 0) z) (v_ z (sg (.bool false) z) (nl (wc_ret ?_))))
         have H:=H.nilOwn (.int .u8) 5
         cases E
         exact (r_thn ⟨.inl z,_,tk0 z ⟨resN z (rv_t (rv_t rv_nil)),_,z,H.sub2 0 4 z z z⟩⟩)
       · have E:=iF c36 E
         refine wc_skip (n_thn (rg (v_ z (mv (.func (.func 132) #[.agg #[pt f1_.p,.int .i64 a2.1,.int .i64 a2.2.1,.int .i64 a2.2.2,(.slice p2 n3 c4),(.slice p5 n6 c7)]] #[]) z) ?_)))
         obtain ⟨x37,E38,E⟩:=bind_some E
         refine e_ z (y_callvF z e_en_132 z ((three_byPoints_do.calls (H.get 0 z) (H.argX 0 z (H.rd h3)) (H.argX 0 z (H.rd h4)) E38).mono ?_))
         rintro _ w ⟨v39,rfl,K⟩
         have H:=H.appX 0 z K
         refine ⟨_,z,(v_ z (r_extract z z) (v_ z (r_extract z z) (v_ z (sg v39 z) (v_ z (sg (.bool x37.2) z) (nl (wc_ret ?_))))))⟩
         cases E
         exact ⟨.inl z,_,tk0 z ⟨resN z (rv_t (rv_t rv_nil)),_,z,H.sub2 0 4 z z z⟩⟩
     · have E:=iF c30 E
       refine v_ z (r_lkI Tryz.underlying3 Tryz.underlying224 e_zf_219 (H.get 3 z) z z z (by simp only [List.nil_append,List.cons_append,lkI,c10,c20,c30,cond_true,cond_false])) (v_ z (sg (.nilFunc) z) (nl (wc_seq (rg (v_ z (mv (.nilFunc) z) (v_ z (r_feql0 Tryz.underlying219 z z z) (v_ z (mv (.bool true) z) (off_ z z z z (off_ z z z z (off_ z z z z (v_ z (pT (.bool true) z z z) (nl (wc_condT z (rg (v_ z (sg (.slice none 0 0) z) (v_ z (sg (.bool false) z) (nl (wc_ret ?_))))))))))))))))))
       have H:=H.nilOwn (.int .u8) 5
       cases E
       exact (r_thn ⟨.inl z,_,tk0 z ⟨resN z (rv_t (rv_t rv_nil)),_,z,H.sub2 0 4 z z z⟩⟩)
def encode_Message.j0 (a0 : Int × Int × Int) (a1 : List Int) (x16 : Int) : Option (List Int × Int):=bif !decide (x16 = 0) then (some (([] : List (Int)),x16)) else ((code_Space.f (a0.1,a0.2.1,a0.2.2)).bind fun x29=>grd (decide ((0 : Int) ≤ x29 ∧ x29 ≤ (a1.length : Int))) ((slices_Clone.f ((a1.take a1.length).drop x29.toNat)).bind fun x36=>some (x36,0)))
def encode_Message.f (a0 : Int × Int × Int) (a1 : List Int) : Option (List Int × Int):=(code_Right.f (a0.1,a0.2.1,a0.2.2)).bind fun x22=>bif !(decide (x22 = 0)) then (encode_Message.j0 a0 a1 10) else (bif !(decide ((a1.length : Int) = a0.1)) then (encode_Message.j0 a0 a1 12) else (encode_Message.j0 a0 a1 0))
theorem encode_Message.calls {w0 : World} {a0 : Int × Int × Int} {a1 : List Int} {v1_ : Value} {r : List Int × Int} (h1 : Rd (.of (.int .u8)) w0 (Ol no w0) v1_ a1) (E : encode_Message.f a0 a1 = some r) :
   Calls Tryz.prog 134 #[.agg #[.int .i64 a0.1,.int .i64 a0.2.1,.int .i64 a0.2.2],v1_] w0 fun e w'=>∃ (u0 : Value),e = .returned (.tuple #[u0,.int .u16 r.2]) ∧ St no w0 w' [.own (.int .u8) 5 u0 r.1]:=by
 have H:=St.nil no w0
 unfold encode_Message.f at E
 refine calls_of_wc (N:=21) (args:=[.agg #[.int .i64 a0.1,.int .i64 a0.2.1,.int .i64 a0.2.2],v1_]) Tryz.func134 z z (by simp) ?_
 obtain ⟨k,_⟩ : ∃ k : Nat,k = 0:=⟨0,rfl⟩
 refine rg (e_ z (y_boxS (cs:=#[.int .i64 a0.1,.int .i64 a0.2.1,.int .i64 a0.2.2]) H z (fun b1 w H=>?_)))
 obtain ⟨p2,n3,c4,rfl⟩:=rd_form h1
 refine e_ z (y_boxS (cs:=#[(.slice p2 n3 c4)]) H z (fun b5 w H=>(v_ z (sg (.slice none 0 0) z) (v_ z (sg (.int .u16 0) z) (nl (rg (v_ z (r_mkf [pt b1] z) (v_ z (r_build (cs:=[.func (.func 190) #[] #[pt b1],.int .u16 10]) e_bd_205 z) (v_ z (r_mkf [pt b5,pt b1] z) (v_ z (r_build (cs:=[.func (.func 191) #[] #[pt b5,pt b1],.int .u16 12]) e_bd_205 z) (e_ z (y_bsB (l:=[.func (.func 190) #[] #[pt b1],.int .u16 10,.func (.func 191) #[] #[pt b5,pt b1],.int .u16 12]) e_sl_206 H z (by decide) ⟨z,z,z,z,z,z,trivial⟩ (by decide) (fun b6 w H=>?_)))))))))))))
 refine e_ z (y_J (fun v w=>∃ (k17 : Nat) (x16 : Int),k17 ≤ k ∧ encode_Message.j0 a0 a1 x16 = some r ∧ v = .int .u16 x16 ∧ St no w0 w [.blk b1 #[.int .i64 a0.1,.int .i64 a0.2.1,.int .i64 a0.2.2] 24,.blk b5 #[(.slice p2 n3 c4)] 22,.blk b6 #[.func (.func 190) #[] #[pt b1],.int .u16 10,.func (.func 191) #[] #[pt b5,pt b1],.int .u16 12] 205]) ?_ ?_)
 · refine (y_in 18 [.slice (some ⟨b6,0,none⟩) 2 2] e_en_118 Tryz.func118 z z z z (rg (v_ z (sg (.int .u16 0) z) (nl (wc_seq (rg (v_ z (mv (.slice (some ⟨b6,0,none⟩) 2 2) z) (v_ z (rv_eq (r_len e_ul_206 z) (v':=.int .i64 2) z) (v_ z (mv (.int .i64 0) z) (nl (wc_block (wc_unroll (wu (rg (v_ z (rv_eq (v':=.bool true) (r_lss z z) z) (nl (wc_seq (wc_condT z (wc_skip (n_thn (wc_seq (wc_block (rg (v_ z (rv_eq (r_iaddr e_sl_206 z z (by decide) (by decide)) (v':=pt b6) z) (v_ z (r_loadB (l:=[.func (.func 190) #[] #[pt b1],.int .u16 10]) e_ag_205 (H.get 2 z) z z z) (e_ z (y_allocS e_zr_205 H (fun b19 w H=>(s_ (y_storeBA e_sz_205 H 3 z z z z z z (fun w H=>(nl (rg ?_)))))))))))))))))))))))))))))))))
   have H : St no w0 _ [.blk b1 #[.int .i64 a0.1,.int .i64 a0.2.1,.int .i64 a0.2.2] 24,.blk b5 #[(.slice p2 n3 c4)] 22,.blk b6 #[.func (.func 190) #[] #[pt b1],.int .u16 10,.func (.func 191) #[] #[pt b5,pt b1],.int .u16 12] 205,.blk b19 #[.func (.func 190) #[] #[pt b1],.int .u16 10] 205]:=H
   refine v_ z (r_faddr e_fa_205_0 z) (v_ z (r_load e_sc_30 z (blk_cell (H.get 3 z) z)) (e_ z (y_inv 5 [pt b1] z e_en_190 Tryz.func190 z z z z (rg (v_ z (sg (.bool false) z) (nl (rg (v_ z (r_loadB (l:=[.int .i64 a0.1,.int .i64 a0.2.1,.int .i64 a0.2.2]) e_ag_24 (H.get 0 z) z z z) ?_))))))))
   obtain ⟨x22,E23,E⟩:=bind_some E
   refine e_ z (y_callL e_en_38 z ((code_Right.calls E23).mono ?_))
   rintro _ w ⟨rfl,K⟩
   have H:=H.app K
   refine ⟨_,z,(v_ z (r_eql z z) (v_ z (sg (.bool (decide (x22 = 0))) z) (nl (wc_ret (⟨.inl z,.bool (decide (x22 = 0)),tk0 z ⟨resM z (rv_t rv_nil) z,(v_ z (r_not z) (nl ?_))⟩⟩)))))⟩
   refine wc_cond z (fun c24=>?_) (fun c24=>?_)
   · have E:=iT c24 E
     refine rg (v_ z (r_faddr e_fa_205_1 z) (v_ z (r_load e_sc_93 z (blk_cell (H.get 3 z) z)) (v_ z (sg (.int .u16 10) z) (nl (wc_ret ?_)))))
     exact (r_bk (r_thn (r_thn (r_bk (r_thn ⟨.inl z,.int .u16 10,tk0 z ⟨resM z (rv_t rv_nil) z,k,_,Nat.le_refl _,E,z,H.sel [0,1,2] z z⟩⟩)))))
   · have E:=iF c24 E
     refine wc_skip (n_bk (n_thn (wc_region (v_ z (rv_eq (v':=.int .i64 1) (r_add z z) z) (v_ z (mv (.int .i64 1) z) (wl_nil (n_thn (wu (rg (v_ z (rv_eq (v':=.bool true) (r_lss z z) z) (nl (wc_seq (wc_condT z (wc_skip (n_thn (wc_seq (wc_block (rg (v_ z (rv_eq (r_iaddr e_sl_206 z z (by decide) (by decide)) (v':=.pointer (some ⟨b6,2,none⟩)) z) (v_ z (r_loadB (l:=[.func (.func 191) #[] #[pt b5,pt b1],.int .u16 12]) e_ag_205 (H.get 2 z) z z z) (e_ z (y_allocS e_zr_205 H (fun b25 w H=>(s_ (y_storeBA e_sz_205 H 4 z z z z z z (fun w H=>(nl (rg (v_ z (r_faddr e_fa_205_0 z) (v_ z (r_load e_sc_30 z (blk_cell (H.get 4 z) z)) (e_ z (y_inv 8 [pt b5,pt b1] z e_en_191 Tryz.func191 z z z z (rg (v_ z (sg (.bool false) z) (nl (rg (v_ z (r_load e_sc_22 z (blk_cell (H.get 1 z) z)) (v_ z (r_lenR e_ul_22 (H.rd h1) z) (v_ z (r_faddr e_fa_24_0 z) (v_ z (r_load e_sc_3 z (blk_cell (H.get 0 z) z)) (v_ z (r_eql z z) (v_ z (sg (.bool (decide ((a1.length : Int) = a0.1))) z) (nl (wc_ret (⟨.inl z,.bool (decide ((a1.length : Int) = a0.1)),tk0 z ⟨resM z (rv_t rv_nil) z,(v_ z (r_not z) ?_)⟩⟩)))))))))))))))))))))))))))))))))))))))))))))
     refine nl ?_
     refine wc_cond z (fun c26=>?_) (fun c26=>?_)
     · have E:=iT c26 E
       refine rg (v_ z (r_faddr e_fa_205_1 z) (v_ z (r_load e_sc_93 z (blk_cell (H.get 4 z) z)) (v_ z (sg (.int .u16 12) z) (nl (wc_ret ?_)))))
       exact (r_bk (r_thn (r_thn (r_bk (r_thn ⟨.inl z,.int .u16 12,tk0 z ⟨resM z (rv_t rv_nil) z,k,_,Nat.le_refl _,E,z,H.sel [0,1,2] z z⟩⟩)))))
     · have E:=iF c26 E
       refine wc_skip (n_bk (n_thn (wc_region (v_ z (rv_eq (v':=.int .i64 2) (r_add z z) z) (v_ z (mv (.int .i64 2) z) (wl_nil (n_thn (wu (rg (v_ z (rv_eq (v':=.bool false) (r_lss z z) z) (nl (wc_seq (wc_condF z (wc_exit (x_thn (x_thn (x_bk (n_thn (rg (v_ z (sg (.int .u16 0) z) (nl (wc_ret ?_))))))))))))))))))))))
       exact ⟨.inl z,.int .u16 0,tk0 z ⟨resM z (rv_t rv_nil) z,k,_,Nat.le_refl _,E,z,H.sel [0,1,2] z z⟩⟩
 rintro _ w ⟨k17,x16,hk18,E,hv_,H⟩
 have hv_:=hv_.symm
 subst hv_
 unfold encode_Message.j0 at E
 refine v_ z (sg (.int .u16 x16) z) (nl (wc_seq (rg (v_ z (mv (.int .u16 x16) z) (v_ z (r_neq z z) (nl ?_))))))
 refine wc_cond z (fun c28=>?_) (fun c28=>?_)
 · have E:=iT c28 E
   refine rg (v_ z (mv (.int .u16 x16) z) (v_ z (sg (.slice none 0 0) z) (v_ z (sg (.int .u16 x16) z) (nl (wc_ret ?_)))))
   have H:=H.nilOwn (.int .u8) 5
   cases E
   exact (r_thn ⟨.inl z,_,tk0 z ⟨resN z (rv_t (rv_t rv_nil)),_,z,H.sub1 3 z⟩⟩)
 · have E:=iF c28 E
   refine wc_skip (n_thn (wc_seq (wc_drawnS (ds:=[]) e_mo H z z ?_)))
   have H:=H.drew
   refine wt 0 (tf 1 7) z z z (by kernel_rfl) H (fun w H=>(r_load e_sc_22 z (blk_cell (H.get 1 z) z))) (wt 1 (tf 2 7) z z z (by kernel_rfl) H (fun w H=>(r_loadB (l:=[.int .i64 a0.1,.int .i64 a0.2.1,.int .i64 a0.2.2]) e_ag_24 (H.get 0 z) z z z)) ?_)
   obtain ⟨x29,E30,E⟩:=bind_some E
   refine wa_one (i:=2) (l':=(tf 3 7)) z z z (by kernel_rfl) (y_callL e_en_113 z ((code_Space.calls E30).mono ?_))
   rintro _ w ⟨rfl,K⟩
   have H:=H.app K
   refine ⟨_,z,⟨fun _=>H.sel [0,1,2] z z,?_⟩⟩
   obtain ⟨⟨g31,g32⟩,E⟩:=grd_some E
   have p34 : x29.toNat ≤ a1.length:=by omega
   have p35 : a1.length ≤ a1.length:=by omega
   refine wt 3 (tf 4 7) z z z (by kernel_rfl) (H.sel [0,1,2] z z) (fun w H=>(r_slcLR e_sl_22 (H.rd h1) z z g31 g32)) ?_
   obtain ⟨x36,E37,E⟩:=bind_some E
   refine wa_one (i:=4) (l':=(tf 5 7)) z z z (by kernel_rfl) (y_callL e_en_84 z ((slices_Clone.calls (H.arg (Rd.slv (H.rd h1) p34 p35)) E37).mono ?_))
   rintro _ w ⟨v38,rfl,K⟩
   have H:=H.app K
   refine ⟨_,z,⟨fun _=>H.sel [0,1,2] z z,(wa_oneV (i:=5) (l':=(tf 6 7)) z z z (by kernel_rfl) ((H.sel [0,1,2] z z)) (sg v38 z) (wt 6 (tf 7 7) z z z (by kernel_rfl) (H.sel [0,1,2] z z) (fun w H=>(sg (.int .u16 0) z)) (wa_done (by kernel_rfl) (n_thn (wc_ret ?_)))))⟩⟩
   cases E
   exact ⟨.inl z,_,tk0 z ⟨resN z (rv_t (rv_t rv_nil)),_,z,H.sub1 3 z⟩⟩
def check_Apart.l0 : Nat → List Int → List Int → List (Int) → Int → Option (List Int)
 | 0,_,_,_,_=>none
 | k + 1,a0,a1,l54,x55=>bif decide (x55 < (((a1.take ((min2 (a0.length : Int) (a1.length : Int)).toNat)).drop 0).length : Int)) then (grd (decide ((0 : Int) ≤ x55 ∧ x55 < (((a1.take ((min2 (a0.length : Int) (a1.length : Int)).toNat)).drop 0).length : Int))) (grd (decide ((0 : Int) ≤ x55 ∧ x55 < (a0.length : Int))) (bif !decide (at_ 0 a0 x55 = at_ 0 ((a1.take ((min2 (a0.length : Int) (a1.length : Int)).toNat)).drop 0) x55) then (grd (decide ((l54.length + ([x55]).length) * 8 ≤ 140737488355328)) (check_Apart.l0 k a0 a1 (l54 ++ ([x55])) (i64.wrap (x55 + 1)))) else (check_Apart.l0 k a0 a1 l54 (i64.wrap (x55 + 1)))))) else (some l54)
def check_Apart.f (k : Nat) (a0 : List Int) (a1 : List Int) : Option (List Int):=grd (decide ((0 : Int) ≤ min2 (a0.length : Int) (a1.length : Int) ∧ min2 (a0.length : Int) (a1.length : Int) ≤ (a1.length : Int))) (check_Apart.l0 k a0 a1 ([] : List (Int)) 0)
theorem check_Apart.calls {w0 : World} {k : Nat} {a0 : List Int} {a1 : List Int} {v0_ : Value} {v1_ : Value} {r : List Int} (h0 : Rd (.of (.int .u8)) w0 (Ol no w0) v0_ a0) (h1 : Rd (.of (.int .u8)) w0 (Ol no w0) v1_ a1) (E : check_Apart.f k a0 a1 = some r) :
   Calls Tryz.prog 135 #[v0_,v1_] w0 fun e w'=>∃ (u0 : Value),e = .returned (u0) ∧ St no w0 w' [.own (.int .i64) 3 u0 r]:=by
 have H:=St.nil no w0
 unfold check_Apart.f at E
 refine calls_of_wc (N:=17) (args:=[v0_,v1_]) Tryz.func135 z z (by simp) ?_
 have H:=H.mk0
 refine rg (v_ z (sg (.slice none 0 0) z) (nl (rg (e_ z (y_allocS e_zr_45 H (fun b1 w H=>(nl (wc_seq (rg (v_ z (mv v0_ z) (v_ z (mv v1_ z) (e_ z (y_in 6 [v0_,v1_] e_en_192 Tryz.func192 z z z z (rg ?_))))))))))))))
 obtain ⟨p10,n11,c12,rfl⟩:=rd_form h0
 refine e_ z (y_boxS (cs:=#[(.slice p10 n11 c12)]) H z (fun b13 w H=>?_))
 obtain ⟨p14,n15,c16,rfl⟩:=rd_form h1
 refine e_ z (y_boxS (cs:=#[(.slice p14 n15 c16)]) H z (fun b17 w H=>(v_ z (sg (.nilFunc) z) (nl (rg (v_ z (r_mkf [pt b17,pt b13] z) (v_ z (sg (.func (.func 249) #[] #[pt b17,pt b13]) z) (nl (wc_ret (⟨.inl z,.func (.func 249) #[] #[pt b17,pt b13],tk0 z ⟨resM z (rv_t rv_nil) z,(nl (wc_block (wc_rf 33 [pt b17,pt b13] z Tryz.func249 z z z z z H 0 z z (fun v21 b18 o19 w hO20 H=>(rg (v_ z (r_load e_sc_22 z (blk_cell (H.get 3 z) z)) (v_ z (r_load e_sc_22 z (blk_cell (H.get 2 z) z)) (v_ z (r_lenR e_ul_22 (H.rd h0) z) (v_ z (r_load e_sc_22 z (blk_cell (H.get 3 z) z)) (v_ z (r_lenR e_ul_22 (H.rd h1) z) (v_ z (r_min z z) ?_)))))))))))⟩⟩))))))))))
 obtain ⟨⟨g22,g23⟩,E⟩:=grd_some E
 have p25 : 0 ≤ (min2 (a0.length : Int) (a1.length : Int)).toNat:=by omega
 have p26 : (min2 (a0.length : Int) (a1.length : Int)).toNat ≤ a1.length:=by omega
 refine v_ z (r_slcHR e_sl_22 (H.rd h1) z z g22 g23) (v_ z (r_lenR e_ul_22 (Rd.slv (H.rd h1) p25 p26) z) (v_ z (mv (.int .i64 0) z) (nl (wc_block ?_))))
 have H:=H.nilOwn (.int .i64) 3
 refine wc_loop (fun kk t w=>∃ (l54 : List (Int)) (x55 : Int) (v53 : Value) (t71 : Fr),kk ≤ k ∧ check_Apart.l0 kk a0 a1 l54 x55 = some r ∧ t = upds t71 [(0,.func (.yield b18) #[] #[]),(2,pt b13),(12,(slv (.slice p14 n15 c16) 0 ((min2 (a0.length : Int) (a1.length : Int)).toNat) 1)),(13,.int .i64 ((((a1.take ((min2 (a0.length : Int) (a1.length : Int)).toNat)).drop 0).length : Int))),(14,.int .i64 x55),(1000000,undef)] ∧ St no w0 w [.mks v21,.blk b1 #[v53] 45,.blk b13 #[(.slice p10 n11 c12)] 22,.blk b17 #[(.slice p14 n15 c16)] 22,.obj b18 (.loop o19),.own (.int .i64) 3 v53 l54]) k ?_ ?_
 · exact ⟨_,_,_,_,Nat.le_refl _,E,upds_eq ⟨z,z,z,z,z,z,trivial⟩,H⟩
 rintro kk t w ⟨l54,x55,v53,t71,hk70,E,rfl,H⟩
 obtain ⟨k69,rfl⟩ | rfl : (∃ k',kk = k' + 1) ∨ kk = 0:=by cases kk; exact .inr rfl; exact .inl ⟨_,rfl⟩
 rotate_left
 · cases E
 rw [check_Apart.l0] at E
 refine rg (v_ z (r_lss z z) (nl (wc_seq ?_)))
 refine wc_cond z (fun c73=>?_) (fun c73=>?_)
 · have E:=iT c73 E
   refine wc_skip (n_thn (wc_seq (wc_block (rg (v_ z (mv (.int .i64 x55) z) ?_)))))
   obtain ⟨⟨g74,g75⟩,E⟩:=grd_some E
   refine v_ z (r_idx e_sl_22 (Rd.slv (H.rd h1) p25 p26) z z g74 g75) (v_ z (r_ldI e_sc_5 (Rd.slv (H.rd h1) p25 p26) g74 g75 z) (v_ z (sg (.int .i64 x55) z) (v_ z (sg (.int .u8 (at_ 0 ((a1.take ((min2 (a0.length : Int) (a1.length : Int)).toNat)).drop 0) x55)) z) (nl (rg (v_ z (r_load e_sc_22 z (blk_cell (H.get 2 z) z)) (v_ z (mv (.int .i64 x55) z) ?_)))))))
   obtain ⟨⟨g76,g77⟩,E⟩:=grd_some E
   refine v_ z (r_idx e_sl_22 (H.rd h0) z z g76 g77) (v_ z (r_ldI e_sc_5 (H.rd h0) g76 g77 z) (v_ z (mv (.int .u8 (at_ 0 ((a1.take ((min2 (a0.length : Int) (a1.length : Int)).toNat)).drop 0) x55)) z) (v_ z (r_neq z z) (v_ z (mv (.bool (!decide (at_ 0 a0 x55 = at_ 0 ((a1.take ((min2 (a0.length : Int) (a1.length : Int)).toNat)).drop 0) x55))) z) ?_))))
   rcases Bool.eq_false_or_eq_true (!decide (at_ 0 a0 x55 = at_ 0 ((a1.take ((min2 (a0.length : Int) (a1.length : Int)).toNat)).drop 0) x55)) with c78 | c78
   · have E:=iT c78 E
     refine on_ c78 z z (mv (.func (.yield b18) #[] #[]) z) (on_ c78 z z (mv (.int .i64 x55) z) (on_ c78 z z (mv (.int .u8 (at_ 0 ((a1.take ((min2 (a0.length : Int) (a1.length : Int)).toNat)).drop 0) x55)) z) (wl_on z c78 z (y_yld [.int .i64 x55,.int .u8 (at_ 0 ((a1.take ((min2 (a0.length : Int) (a1.length : Int)).toNat)).drop 0) x55)] z z H 4 z hO20 z z (wc_region (v_ z (sg (.int .i64 x55) z) (wl_nil (yB H 4 z hO20 (fun w H=>(wc_block (wc_region (v_ z (r_load e_sc_45 z (blk_cell (H.get 1 z) z)) (v_ z (mv (.int .i64 x55) z) (e_ z (y_bsL (e:=(.int .i64)) (l:=[x55]) e_sl_45 H z (by decide) ⟨z,z,trivial⟩ (by decide) (fun v79 w H=>?_))))))))))))))))
     obtain ⟨g81,E⟩:=grd_some E
     refine e_ z (y_app e_sl_45 H 5 z (own_rd (H.get 6 z)) z z (by omega) (by unfold maxLen; omega) (fun v80 w H=>?_))
     obtain ⟨p82,n83,c84,rfl⟩:=own_form (H.get 5 z)
     refine s_ (y_storeB e_sz_45 H 1 z z z z z (fun w H=>(wl_nil (n_bk (yN H 4 z hO20 (fun w H=>(on_ c78 z z (rv_eq (v':=.bool false) (r_not z) z) (v_ z (pT (.bool false) z z c78) (nl (wc_condF z (wc_skip (n_bk (n_thn (wc_region (v_ z (r_add z z) (v_ z (mv (.int .i64 (i64.wrap (x55 + 1))) z) (wl_nil ?_)))))))))))))))))
     exact ⟨k69,Nat.lt_succ_self _,_,_,_,_,Nat.le_of_succ_le hk70,E,upds_eq ⟨z,z,z,z,z,z,trivial⟩,H.sel [0,1,2,3,4,5] z z⟩
   · have E:=iF c78 E
     refine off_ c78 z z z (off_ c78 z z z (off_ c78 z z z (off_ c78 z z z (off_ c78 z z z (v_ z (pF (.bool false) z z c78) (nl (wc_condF z (wc_skip (n_bk (n_thn (wc_region (v_ z (r_add z z) (v_ z (mv (.int .i64 (i64.wrap (x55 + 1))) z) (wl_nil ?_))))))))))))))
     exact ⟨k69,Nat.lt_succ_self _,_,_,_,_,Nat.le_of_succ_le hk70,E,upds_eq ⟨z,z,z,z,z,z,trivial⟩,H⟩
 · have E:=iF c73 E
   refine wc_exit (x_thn (x_thn (x_bk (⟨.inr z,.tuple #[],tk0 z ⟨resM z rv_nil z,(el_n H 4 z hO20 (fun w H=>(n_bk (n_thn (rg (v_ z (r_load e_sc_45 z (blk_cell (H.get 1 z) z)) (v_ z (sg v53 z) (nl (wc_ret ?_)))))))))⟩⟩))))
   cases E
   exact ⟨.inl z,_,tkA H 0 z z (fun w H=>⟨resN z (rv_t rv_nil),_,z,H.sub1 5 z⟩)⟩
def check_Answer.j0 (k : Nat) (a1 : List Int) (a2 : List Int) (x3 : List Int × Int) (x9 : Int) : Option ((List Int × List Int × List Int) × Int):=bif !decide (x9 = 0) then (some ((([] : List (Int)),([] : List (Int)),([] : List (Int))),x9)) else ((slices_Clone.f a2).bind fun x17=>(check_Apart.f k a1 a2).bind fun x20=>some ((x17,x3.1,x20),0))
def check_Answer.f (k : Nat) (a0 : Int × Int × Int) (a1 : List Int) (a2 : List Int) : Option ((List Int × List Int × List Int) × Int):=(encode_Message.f (a0.1,a0.2.1,a0.2.2) a2).bind fun x3=>bif decide (x3.2 = 0) then (bif !decide ((a1.length : Int) = a0.1) then (check_Answer.j0 k a1 a2 x3 12) else (check_Answer.j0 k a1 a2 x3 x3.2)) else (check_Answer.j0 k a1 a2 x3 x3.2)
theorem check_Answer.calls {w0 : World} {k : Nat} {a0 : Int × Int × Int} {a1 : List Int} {a2 : List Int} {v1_ : Value} {v2_ : Value} {r : (List Int × List Int × List Int) × Int} (h1 : Rd (.of (.int .u8)) w0 (Ol no w0) v1_ a1) (h2 : Rd (.of (.int .u8)) w0 (Ol no w0) v2_ a2) (E : check_Answer.f k a0 a1 a2 = some r) :
   Calls Tryz.prog 76 #[.agg #[.int .i64 a0.1,.int .i64 a0.2.1,.int .i64 a0.2.2],v1_,v2_] w0 fun e w'=>∃ (u0_0 : Value) (u0_1 : Value) (u0_2 : Value),e = .returned (.tuple #[.agg #[u0_0,u0_1,u0_2],.int .u16 r.2]) ∧ St no w0 w' [.own (.int .u8) 5 u0_0 r.1.1,.own (.int .u8) 5 u0_1 r.1.2.1,.own (.int .i64) 3 u0_2 r.1.2.2]:=by
 have H:=St.nil no w0
 unfold check_Answer.f at E
 refine calls_of_wc (N:=36) (args:=[.agg #[.int .i64 a0.1,.int .i64 a0.2.1,.int .i64 a0.2.2],v1_,v2_]) Tryz.func76 z z (by simp) ?_
 refine rg (e_ z (y_boxS (cs:=#[.int .i64 a0.1,.int .i64 a0.2.1,.int .i64 a0.2.2]) H z (fun b1 w H=>(e_ z (y_allocS e_zr_101 H (fun b2 w H=>(v_ z (sg (.int .u16 0) z) (nl (rg (v_ z (r_loadB (l:=[.int .i64 a0.1,.int .i64 a0.2.1,.int .i64 a0.2.2]) e_ag_24 (H.get 0 z) z z z) (v_ z (mv v2_ z) ?_)))))))))))
 obtain ⟨x3,E4,E⟩:=bind_some E
 refine e_ z (y_callL e_en_134 z ((encode_Message.calls (H.arg (H.rd h2)) E4).mono ?_))
 rintro _ w ⟨v5,rfl,K⟩
 have H:=H.app K
 refine ⟨_,z,(v_ z (r_move) (v_ z (r_extract z z) (v_ z (r_extract z z) (v_ z (sg v5 z) (v_ z (sg (.int .u16 x3.2) z) (nl ?_))))))⟩
 refine wc_seqJ (fun t w=>∃ (k11 : Nat) (x9 : Int) (t10 : Fr),k11 ≤ k ∧ check_Answer.j0 k11 a1 a2 x3 x9 = some r ∧ t = upds t10 [(1,v1_),(2,v2_),(6,pt b2),(7,.int .u16 0),(8,v5),(9,.int .u16 x9),(1000000,undef)] ∧ St no w0 w [.blk b1 #[.int .i64 a0.1,.int .i64 a0.2.1,.int .i64 a0.2.2] 24,.blk b2 #[.slice none 0 0,.slice none 0 0,.slice none 0 0] 101,.own (.int .u8) 5 v5 x3.1]) ?_ ?_
 · refine rg (v_ z (mv (.int .u16 x3.2) z) (v_ z (r_eql z z) (v_ z (mv (.bool (decide (x3.2 = 0))) z) ?_)))
   rcases Bool.eq_false_or_eq_true (decide (x3.2 = 0)) with c13 | c13
   · have E:=iT c13 E
     refine on_ c13 z z (mv v1_ z) (on_ c13 z z (r_lenR e_ul_22 (H.rd h1) z) (on_ c13 z z (r_faddr e_fa_24_0 z) (on_ c13 z z (r_load e_sc_3 z (blk_cell (H.get 0 z) z)) (on_ c13 z z (r_neq z z) (v_ z (pT (.bool (!decide ((a1.length : Int) = a0.1))) z z c13) (nl ?_))))))
     refine wc_cond z (fun c14=>?_) (fun c14=>?_)
     · have E:=iT c14 E
       refine wc_region (v_ z (sg (.int .u16 12) z) (wl_nil ?_))
       exact ⟨k,_,_,Nat.le_refl _,E,upds_eq ⟨z,z,z,z,z,z,z,trivial⟩,H⟩
     · have E:=iF c14 E
       refine wc_skip ?_
       exact ⟨k,_,_,Nat.le_refl _,E,upds_eq ⟨z,z,z,z,z,z,z,trivial⟩,H⟩
   · have E:=iF c13 E
     refine off_ c13 z z z (off_ c13 z z z (off_ c13 z z z (off_ c13 z z z (off_ c13 z z z (v_ z (pF (.bool false) z z c13) (nl (wc_condF z (wc_skip ?_))))))))
     exact ⟨k,_,_,Nat.le_refl _,E,upds_eq ⟨z,z,z,z,z,z,z,trivial⟩,H⟩
 rintro t w ⟨k11,x9,t10,hk12,E,rfl,H⟩
 unfold check_Answer.j0 at E
 refine wc_seq (rg (v_ z (mv (.int .u16 x9) z) (v_ z (r_neq z z) (nl ?_))))
 refine wc_cond z (fun c16=>?_) (fun c16=>?_)
 · have E:=iT c16 E
   refine rg (v_ z (r_build (cs:=[.slice none 0 0,.slice none 0 0,.slice none 0 0]) e_bd_101 z) (v_ z (mv (.int .u16 x9) z) (s_ (y_storeBA e_sz_101 H 1 z z z z z z (fun w H=>(v_ z (sg (.int .u16 x9) z) (nl (wc_ret ?_))))))))
   have H:=H.nilOwn (.int .u8) 5
   have H:=H.nilOwn (.int .u8) 5
   have H:=H.nilOwn (.int .i64) 3
   cases E
   exact (r_thn ⟨.inl z,_,tk0 z ⟨resN z (rv_c z e_ag_101 (blk_range (n:=3) (H.get 1 z) z) z (rv_t rv_nil)),_,_,_,z,H.sub3 3 4 5 z z z z z z⟩⟩)
 · have E:=iF c16 E
   refine wc_skip (n_thn (rg (v_ z (mv v2_ z) ?_)))
   obtain ⟨x17,E18,E⟩:=bind_some E
   refine e_ z (y_callL e_en_84 z ((slices_Clone.calls (H.arg (H.rd h2)) E18).mono ?_))
   rintro _ w ⟨v19,rfl,K⟩
   have H:=H.app K
   refine ⟨_,z,(v_ z (mv v5 z) (v_ z (mv v1_ z) (v_ z (mv v2_ z) ?_)))⟩
   obtain ⟨x20,E21,E⟩:=bind_some E
   refine e_ z (y_callL e_en_135 z ((check_Apart.calls (H.arg (H.rd h1)) (H.arg (H.rd h2)) E21).mono ?_))
   rintro _ w ⟨v22,rfl,K⟩
   have H:=H.app K
   refine ⟨_,z,?_⟩
   obtain ⟨p23,n24,c25,rfl⟩:=own_form (H.get 3 z)
   obtain ⟨p26,n27,c28,rfl⟩:=own_form (H.get 2 z)
   obtain ⟨p29,n30,c31,rfl⟩:=own_form (H.get 4 z)
   refine v_ z (r_build (cs:=[(.slice p23 n24 c25),(.slice p26 n27 c28),(.slice p29 n30 c31)]) e_bd_101 z) (s_ (y_storeBA e_sz_101 H 1 z z z z z z (fun w H=>(v_ z (sg (.int .u16 0) z) (nl (wc_ret ?_))))))
   cases E
   exact ⟨.inl z,_,tk0 z ⟨resN z (rv_c z e_ag_101 (blk_range (n:=3) (H.get 1 z) z) z (rv_t rv_nil)),_,_,_,z,H.sub3 3 2 4 z z z z z z⟩⟩
def pick_Right.f (a0 : Int × Int) : Option (Int):=bif decide (a0.1 < 0) then (some 11) else (bif decide (3 < a0.1) then (some 11) else (bif decide (a0.2 < 0) then (some 11) else (bif decide (3 < a0.2) then (some 11) else (some 0))))
theorem pick_Right.calls {w0 : World} {a0 : Int × Int} {r : Int}  (E : pick_Right.f a0 = some r) :
   Calls Tryz.prog 40 #[.agg #[.int .i64 a0.1,.int .i64 a0.2]] w0 fun e w'=>e = .returned (.int .u16 r) ∧ St no w0 w' []:=by
 have H:=St.nil no w0
 unfold pick_Right.f at E
 refine calls_of_wc (N:=21) (args:=[.agg #[.int .i64 a0.1,.int .i64 a0.2]]) Tryz.func40 z z (by simp) ?_
 refine rg (e_ z (y_boxS (cs:=#[.int .i64 a0.1,.int .i64 a0.2]) H z (fun b1 w H=>(v_ z (sg (.int .u16 0) z) (nl (wc_seq (rg (v_ z (r_faddr e_fa_44_0 z) (v_ z (r_load e_sc_3 z (blk_cell (H.get 0 z) z)) (v_ z (r_lss z z) (v_ z (mv (.bool (decide (a0.1 < 0))) z) ?_)))))))))))
 rcases Bool.eq_false_or_eq_true (decide (a0.1 < 0)) with c2 | c2
 · have E:=iT c2 E
   refine off_ c2 z z z (off_ c2 z z z (off_ c2 z z z (v_ z (pT (.bool true) z z c2) (v_ z (mv (.bool true) z) (off_ z z z z (off_ z z z z (off_ z z z z (v_ z (pT (.bool true) z z z) (v_ z (mv (.bool true) z) (off_ z z z z (off_ z z z z (off_ z z z z (v_ z (pT (.bool true) z z z) (nl (wc_condT z (rg (v_ z (sg (.int .u16 11) z) (nl (wc_ret ?_)))))))))))))))))))
   cases E
   exact (r_thn ⟨.inl z,_,tk0 z ⟨resN z (rv_t rv_nil),z,H.sub0⟩⟩)
 · have E:=iF c2 E
   refine on_ c2 z z (r_faddr e_fa_44_0 z) (on_ c2 z z (r_load e_sc_3 z (blk_cell (H.get 0 z) z)) (on_ c2 z z (r_gtr z z) (v_ z (pF (.bool (decide (3 < a0.1))) z z c2) (v_ z (mv (.bool (decide (3 < a0.1))) z) ?_))))
   rcases Bool.eq_false_or_eq_true (decide (3 < a0.1)) with c3 | c3
   · have E:=iT c3 E
     refine off_ c3 z z z (off_ c3 z z z (off_ c3 z z z (v_ z (pT (.bool true) z z c3) (v_ z (mv (.bool true) z) (off_ z z z z (off_ z z z z (off_ z z z z (v_ z (pT (.bool true) z z z) (nl (wc_condT z (rg (v_ z (sg (.int .u16 11) z) (nl (wc_ret ?_))))))))))))))
     cases E
     exact (r_thn ⟨.inl z,_,tk0 z ⟨resN z (rv_t rv_nil),z,H.sub0⟩⟩)
   · have E:=iF c3 E
     refine on_ c3 z z (r_faddr e_fa_44_1 z) (on_ c3 z z (r_load e_sc_3 z (blk_cell (H.get 0 z) z)) (on_ c3 z z (r_lss z z) (v_ z (pF (.bool (decide (a0.2 < 0))) z z c3) (v_ z (mv (.bool (decide (a0.2 < 0))) z) ?_))))
     rcases Bool.eq_false_or_eq_true (decide (a0.2 < 0)) with c4 | c4
     · have E:=iT c4 E
       refine off_ c4 z z z (off_ c4 z z z (off_ c4 z z z (v_ z (pT (.bool true) z z c4) (nl (wc_condT z (rg (v_ z (sg (.int .u16 11) z) (nl (wc_ret ?_)))))))))
       cases E
       exact (r_thn ⟨.inl z,_,tk0 z ⟨resN z (rv_t rv_nil),z,H.sub0⟩⟩)
     · have E:=iF c4 E
       refine on_ c4 z z (r_faddr e_fa_44_1 z) (on_ c4 z z (r_load e_sc_3 z (blk_cell (H.get 0 z) z)) (on_ c4 z z (r_gtr z z) (v_ z (pF (.bool (decide (3 < a0.2))) z z c4) (nl ?_))))
       refine wc_cond z (fun c5=>?_) (fun c5=>?_)
       · have E:=iT c5 E
         refine rg (v_ z (sg (.int .u16 11) z) (nl (wc_ret ?_)))
         cases E
         exact (r_thn ⟨.inl z,_,tk0 z ⟨resN z (rv_t rv_nil),z,H.sub0⟩⟩)
       · have E:=iF c5 E
         refine wc_skip (n_thn (rg (v_ z (sg (.int .u16 0) z) (nl (wc_ret ?_)))))
         cases E
         exact ⟨.inl z,_,tk0 z ⟨resN z (rv_t rv_nil),z,H.sub0⟩⟩
def pick_Choose_1.f (a0 : (Int × Int × Int) × Int) : Option (Bool):=some (decide (a0.1.1 ≤ 16))
theorem pick_Choose_1.calls {w0 : World} {a0 : (Int × Int × Int) × Int} {r : Bool}  (E : pick_Choose_1.f a0 = some r) :
   Calls Tryz.prog 111 #[.agg #[.int .i64 a0.1.1,.int .i64 a0.1.2.1,.int .i64 a0.1.2.2,.int .i64 a0.2]] w0 fun e w'=>e = .returned (.bool r) ∧ St no w0 w' []:=by
 have H:=St.nil no w0
 unfold pick_Choose_1.f at E
 refine calls_of_wc (N:=7) (args:=[.agg #[.int .i64 a0.1.1,.int .i64 a0.1.2.1,.int .i64 a0.1.2.2,.int .i64 a0.2]]) Tryz.func111 z z (by simp) ?_
 refine rg (e_ z (y_boxS (cs:=#[.int .i64 a0.1.1,.int .i64 a0.1.2.1,.int .i64 a0.1.2.2,.int .i64 a0.2]) H z (fun b1 w H=>(v_ z (sg (.bool false) z) (nl (rg (v_ z (r_faddr e_fa_197_0 z) (v_ z (r_faddr e_fa_24_0 z) (v_ z (r_load e_sc_3 z (blk_cell (H.get 0 z) z)) (v_ z (r_leq z z) (v_ z (sg (.bool (decide (a0.1.1 ≤ 16))) z) (nl (wc_ret ?_)))))))))))))
 cases E
 exact ⟨.inl z,_,tk0 z ⟨resN z (rv_t rv_nil),z,H.sub0⟩⟩
def pick_Choose_2.f (a0 : (Int × Int × Int) × Int) : Option (Bool):=(code_Space.f (a0.1.1,a0.1.2.1,a0.1.2.2)).bind fun x2=>some (decide (i64.wrap (Int.tdiv (i64.wrap (x2 + 1)) 2) ≤ a0.2))
theorem pick_Choose_2.calls {w0 : World} {a0 : (Int × Int × Int) × Int} {r : Bool}  (E : pick_Choose_2.f a0 = some r) :
   Calls Tryz.prog 112 #[.agg #[.int .i64 a0.1.1,.int .i64 a0.1.2.1,.int .i64 a0.1.2.2,.int .i64 a0.2]] w0 fun e w'=>e = .returned (.bool r) ∧ St no w0 w' []:=by
 have H:=St.nil no w0
 unfold pick_Choose_2.f at E
 refine calls_of_wc (N:=11) (args:=[.agg #[.int .i64 a0.1.1,.int .i64 a0.1.2.1,.int .i64 a0.1.2.2,.int .i64 a0.2]]) Tryz.func112 z z (by simp) ?_
 refine rg (e_ z (y_boxS (cs:=#[.int .i64 a0.1.1,.int .i64 a0.1.2.1,.int .i64 a0.1.2.2,.int .i64 a0.2]) H z (fun b1 w H=>(v_ z (sg (.bool false) z) (nl (wc_seq (wc_drawnS (ds:=[]) e_mo H z z ?_)))))))
 have H:=H.drew
 refine wt 0 (tf 1 9) z z z (by kernel_rfl) H (fun w H=>(r_faddr e_fa_197_1 z)) (wt 1 (tf 2 9) z z z (by kernel_rfl) H (fun w H=>(r_load e_sc_3 z (blk_cell (H.get 0 z) z))) (wt 2 (tf 3 9) z z z (by kernel_rfl) H (fun w H=>(r_faddr e_fa_197_0 z)) (wt 3 (tf 4 9) z z z (by kernel_rfl) H (fun w H=>(r_loadB (l:=[.int .i64 a0.1.1,.int .i64 a0.1.2.1,.int .i64 a0.1.2.2]) e_ag_24 (H.get 0 z) z z z)) ?_)))
 obtain ⟨x2,E3,E⟩:=bind_some E
 refine wa_one (i:=4) (l':=(tf 5 9)) z z z (by kernel_rfl) (y_callL e_en_113 z ((code_Space.calls E3).mono ?_))
 rintro _ w ⟨rfl,K⟩
 have H:=H.app K
 refine ⟨_,z,⟨fun _=>H.sel [0] z z,(wt 5 (tf 6 9) z z z (by kernel_rfl) (H.sel [0] z z) (fun w H=>(r_add z z)) (wt 6 (tf 7 9) z z z (by kernel_rfl) (H.sel [0] z z) (fun w H=>(r_quo z z (by decide))) (wt 7 (tf 8 9) z z z (by kernel_rfl) (H.sel [0] z z) (fun w H=>(r_geq z z)) (wt 8 (tf 9 9) z z z (by kernel_rfl) (H.sel [0] z z) (fun w H=>(sg (.bool (decide (i64.wrap (Int.tdiv (i64.wrap (x2 + 1)) 2) ≤ a0.2))) z)) (wa_done (by kernel_rfl) (n_thn (wc_ret ?_)))))))⟩⟩
 cases E
 exact ⟨.inl z,_,tk0 z ⟨resN z (rv_t rv_nil),z,H.sub0⟩⟩
def pick_Choose_3.f (a0 : (Int × Int × Int) × Int) : Option (Bool):=some true
theorem pick_Choose_3.calls {w0 : World} {a0 : (Int × Int × Int) × Int} {r : Bool}  (E : pick_Choose_3.f a0 = some r) :
   Calls Tryz.prog 114 #[.agg #[.int .i64 a0.1.1,.int .i64 a0.1.2.1,.int .i64 a0.1.2.2,.int .i64 a0.2]] w0 fun e w'=>e = .returned (.bool r) ∧ St no w0 w' []:=by
 have H:=St.nil no w0
 unfold pick_Choose_3.f at E
 refine calls_of_wc (N:=3) (args:=[.agg #[.int .i64 a0.1.1,.int .i64 a0.1.2.1,.int .i64 a0.1.2.2,.int .i64 a0.2]]) Tryz.func114 z z (by simp) ?_
 refine rg (e_ z (y_boxS (cs:=#[.int .i64 a0.1.1,.int .i64 a0.1.2.1,.int .i64 a0.1.2.2,.int .i64 a0.2]) H z (fun b1 w H=>(v_ z (sg (.bool false) z) (nl (rg (v_ z (sg (.bool true) z) (nl (wc_ret ?_)))))))))
 cases E
 exact ⟨.inl z,_,tk0 z ⟨resN z (rv_t rv_nil),z,H.sub0⟩⟩
def pick_Choose_4.f (a0 : (Int × Int × Int) × Int) : Option (Bool):=some (decide (64 ≤ a0.1.1))
theorem pick_Choose_4.calls {w0 : World} {a0 : (Int × Int × Int) × Int} {r : Bool}  (E : pick_Choose_4.f a0 = some r) :
   Calls Tryz.prog 115 #[.agg #[.int .i64 a0.1.1,.int .i64 a0.1.2.1,.int .i64 a0.1.2.2,.int .i64 a0.2]] w0 fun e w'=>e = .returned (.bool r) ∧ St no w0 w' []:=by
 have H:=St.nil no w0
 unfold pick_Choose_4.f at E
 refine calls_of_wc (N:=7) (args:=[.agg #[.int .i64 a0.1.1,.int .i64 a0.1.2.1,.int .i64 a0.1.2.2,.int .i64 a0.2]]) Tryz.func115 z z (by simp) ?_
 refine rg (e_ z (y_boxS (cs:=#[.int .i64 a0.1.1,.int .i64 a0.1.2.1,.int .i64 a0.1.2.2,.int .i64 a0.2]) H z (fun b1 w H=>(v_ z (sg (.bool false) z) (nl (rg (v_ z (r_faddr e_fa_197_0 z) (v_ z (r_faddr e_fa_24_0 z) (v_ z (r_load e_sc_3 z (blk_cell (H.get 0 z) z)) (v_ z (r_geq z z) (v_ z (sg (.bool (decide (64 ≤ a0.1.1))) z) (nl (wc_ret ?_)))))))))))))
 cases E
 exact ⟨.inl z,_,tk0 z ⟨resN z (rv_t rv_nil),z,H.sub0⟩⟩
def pick_Choose_5.f (a0 : (Int × Int × Int) × Int) : Option (Bool):=some (decide (a0.1.1 < 16))
theorem pick_Choose_5.calls {w0 : World} {a0 : (Int × Int × Int) × Int} {r : Bool}  (E : pick_Choose_5.f a0 = some r) :
   Calls Tryz.prog 116 #[.agg #[.int .i64 a0.1.1,.int .i64 a0.1.2.1,.int .i64 a0.1.2.2,.int .i64 a0.2]] w0 fun e w'=>e = .returned (.bool r) ∧ St no w0 w' []:=by
 have H:=St.nil no w0
 unfold pick_Choose_5.f at E
 refine calls_of_wc (N:=7) (args:=[.agg #[.int .i64 a0.1.1,.int .i64 a0.1.2.1,.int .i64 a0.1.2.2,.int .i64 a0.2]]) Tryz.func116 z z (by simp) ?_
 refine rg (e_ z (y_boxS (cs:=#[.int .i64 a0.1.1,.int .i64 a0.1.2.1,.int .i64 a0.1.2.2,.int .i64 a0.2]) H z (fun b1 w H=>(v_ z (sg (.bool false) z) (nl (rg (v_ z (r_faddr e_fa_197_0 z) (v_ z (r_faddr e_fa_24_0 z) (v_ z (r_load e_sc_3 z (blk_cell (H.get 0 z) z)) (v_ z (r_lss z z) (v_ z (sg (.bool (decide (a0.1.1 < 16))) z) (nl (wc_ret ?_)))))))))))))
 cases E
 exact ⟨.inl z,_,tk0 z ⟨resN z (rv_t rv_nil),z,H.sub0⟩⟩
def pick_Choose_6.f (a0 : (Int × Int × Int) × Int) : Option (Bool):=some true
theorem pick_Choose_6.calls {w0 : World} {a0 : (Int × Int × Int) × Int} {r : Bool}  (E : pick_Choose_6.f a0 = some r) :
   Calls Tryz.prog 117 #[.agg #[.int .i64 a0.1.1,.int .i64 a0.1.2.1,.int .i64 a0.1.2.2,.int .i64 a0.2]] w0 fun e w'=>e = .returned (.bool r) ∧ St no w0 w' []:=by
 have H:=St.nil no w0
 unfold pick_Choose_6.f at E
 refine calls_of_wc (N:=3) (args:=[.agg #[.int .i64 a0.1.1,.int .i64 a0.1.2.1,.int .i64 a0.1.2.2,.int .i64 a0.2]]) Tryz.func117 z z (by simp) ?_
 refine rg (e_ z (y_boxS (cs:=#[.int .i64 a0.1.1,.int .i64 a0.1.2.1,.int .i64 a0.1.2.2,.int .i64 a0.2]) H z (fun b1 w H=>(v_ z (sg (.bool false) z) (nl (rg (v_ z (sg (.bool true) z) (nl (wc_ret ?_)))))))))
 cases E
 exact ⟨.inl z,_,tk0 z ⟨resN z (rv_t rv_nil),z,H.sub0⟩⟩
end Go.Proofs.YtkndgkbgbmhjoaaGreatDoor.Gw
