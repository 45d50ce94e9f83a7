/- The card of the law that what a desk encodes is read back from what it tells: a part of its proof. The conditions are those of the statement. -/
import Derived.Test.YtkndgkbgbmhjoaaGreatDoorQ8
import Derived.Test.YtkndgkbgbmhjoaaGreatDoorQ9
import Derived.Test.YtkndgkbgbmhjoaaGreatDoorQ6
namespace Go.Proofs.YtkndgkbgbmhjoaaGreatDoor.Gw
open Go Go.RowKit
set_option linter.unusedVariables false
set_option linter.unusedSimpArgs false
set_option linter.unusedSectionVars false
variable [LibO]
set_option linter.unnecessarySimpa false
set_option maxRecDepth 100000
set_option maxHeartbeats 4000000
open Go.IntKind (i8 i16 i32 i64 u8 u16 u32 u64)
def table_Table_Log.f (a1 : Int) : Option (Int × Bool):=bif decide (a1 = 0) then (some (0,false)) else (grd (decide ((0 : Int) ≤ a1 ∧ a1 < 256)) (some (i64.wrap (at_ 0 logs a1),true)))
theorem table_Table_Log.calls {w0 : World} {t0_ : Nat} {m0_ : Bool} {a1 : Int} {r : Int × Bool} (hf : (Rs.tab t0_ m0_).inv w0) (E : table_Table_Log.f a1 = some r) :
   Calls Tryz.prog 377 #[pt t0_,.int .u8 a1] w0 fun e w'=>e = .returned (.tuple #[.int .i64 r.1,.bool r.2]) ∧ St (Rs.tab t0_ m0_).fp w0 w' [.tab t0_ true]:=by
 have H:=St.start hf
 unfold table_Table_Log.f at E
 refine calls_of_wc (N:=20) (args:=[pt t0_,.int .u8 a1]) Tryz.func377 z z (by simp) ?_
 refine rg (v_ z (sg (.int .i64 0) z) (v_ z (sg (.bool false) z) (nl (wc_seq (rg (v_ z (mv (pt t0_) z) (v_ z (r_peql0 Tryz.underlying143 z z) (nl (wc_condF z (wc_skip (n_thn (rg (v_ z (mv (pt t0_) z) (e_ z (y_callL j_en_379 z ((table_Table_of.calls (H.get 0 z)).mono ?_))))))))))))))))
 rintro _ w ⟨rfl,K⟩
 have H:=H.appX 0 z K
 refine ⟨_,z,(v_ z (sg (.pointer (some ⟨t0_,4,none⟩)) z) (nl (wc_seq (rg (v_ z (mv (.int .u8 a1) z) (v_ z (r_eql z z) (nl ?_)))))))⟩
 refine wc_cond z (fun c1=>?_) (fun c1=>?_)
 · have E:=iT c1 E
   refine rg (v_ z (sg (.int .i64 0) z) (v_ z (sg (.bool false) z) (nl (wc_ret ?_))))
   cases E
   exact (r_thn ⟨.inl z,_,tk0 z ⟨resN z (rv_t (rv_t rv_nil)),z,H.sub1 0 z⟩⟩)
 · have E:=iF c1 E
   refine wc_skip (n_thn (rg (v_ z (mv (.pointer (some ⟨t0_,4,none⟩)) z) (v_ z (mv (.int .u8 a1) z) (v_ z (r_nilck z) (v_ z (r_faddr j_fa_235_1 z) ?_))))))
   obtain ⟨⟨g2,g3⟩,E⟩:=grd_some E
   refine v_ z (r_iaddrA j_ar_233 z z g2 g3) (v_ z (r_load j_sc_5 z (tab_logs (H.get 0 z) g2 g3)) (v_ z (r_conv z Tryz.underlying5 Tryz.underlying3) (v_ z (sg (.int .i64 (i64.wrap (at_ 0 logs a1))) z) (v_ z (sg (.bool true) z) (nl (wc_ret ?_))))))
   cases E
   exact ⟨.inl z,_,tk0 z ⟨resN z (rv_t (rv_t rv_nil)),z,H.sub1 0 z⟩⟩
def table_Table_Mul.f (a1 : Int) (a2 : Int) : Option (Int):=(table_Table_Log.f a1).bind fun x1=>(table_Table_Log.f a2).bind fun x3=>bif !x1.2 then (some 0) else (bif !x3.2 then (some 0) else (grd (decide ((0 : Int) ≤ i64.wrap (x1.1 + x3.1) ∧ i64.wrap (x1.1 + x3.1) < 510)) (some (at_ 0 exps (i64.wrap (x1.1 + x3.1))))))
theorem table_Table_Mul.calls {w0 : World} {t0_ : Nat} {m0_ : Bool} {a1 : Int} {a2 : Int} {r : Int} (hf : (Rs.tab t0_ m0_).inv w0) (E : table_Table_Mul.f a1 a2 = some r) :
   Calls Tryz.prog 374 #[pt t0_,.int .u8 a1,.int .u8 a2] w0 fun e w'=>e = .returned (.int .u8 r) ∧ St (Rs.tab t0_ m0_).fp w0 w' [.tab t0_ true]:=by
 have H:=St.start hf
 unfold table_Table_Mul.f at E
 refine calls_of_wc (N:=38) (args:=[pt t0_,.int .u8 a1,.int .u8 a2]) Tryz.func374 z z (by simp) ?_
 refine rg (v_ z (sg (.int .u8 0) z) (nl (rg (v_ z (mv (pt t0_) z) (v_ z (mv (.int .u8 a1) z) ?_)))))
 obtain ⟨x1,E2,E⟩:=bind_some E
 refine e_ z (y_callL j_en_377 z ((table_Table_Log.calls (H.get 0 z) E2).mono ?_))
 rintro _ w ⟨rfl,K⟩
 have H:=H.appX 0 z K
 refine ⟨_,z,(v_ z (r_move) (v_ z (r_extract z z) (v_ z (r_extract z z) (v_ z (sg (.int .i64 x1.1) z) (v_ z (sg (.bool x1.2) z) (nl (rg (v_ z (mv (pt t0_) z) (v_ z (mv (.int .u8 a2) z) ?_)))))))))⟩
 obtain ⟨x3,E4,E⟩:=bind_some E
 refine e_ z (y_callL j_en_377 z ((table_Table_Log.calls (H.get 0 z) E4).mono ?_))
 rintro _ w ⟨rfl,K⟩
 have H:=H.appX 0 z K
 refine ⟨_,z,(v_ z (r_move) (v_ z (r_extract z z) (v_ z (r_extract z z) (v_ z (sg (.int .i64 x3.1) z) (v_ z (sg (.bool x3.2) z) (nl (wc_seq (rg (v_ z (mv (.bool x1.2) z) (v_ z (r_not z) (v_ z (mv (.bool (!x1.2)) z) ?_)))))))))))⟩
 rcases Bool.eq_false_or_eq_true (!x1.2) with c7 | c7
 · have E:=iT c7 E
   refine off_ c7 z z z (off_ c7 z z z (v_ z (pT (.bool true) z z c7) (nl (wc_condT z (rg (v_ z (sg (.int .u8 0) z) (nl (wc_ret ?_))))))))
   cases E
   exact (r_thn ⟨.inl z,_,tk0 z ⟨resN z (rv_t rv_nil),z,H.sub1 0 z⟩⟩)
 · have E:=iF c7 E
   refine on_ c7 z z (mv (.bool x3.2) z) (on_ c7 z z (r_not z) (v_ z (pF (.bool (!x3.2)) z z c7) (nl ?_)))
   refine wc_cond z (fun c8=>?_) (fun c8=>?_)
   · have E:=iT c8 E
     refine rg (v_ z (sg (.int .u8 0) z) (nl (wc_ret ?_)))
     cases E
     exact (r_thn ⟨.inl z,_,tk0 z ⟨resN z (rv_t rv_nil),z,H.sub1 0 z⟩⟩)
   · have E:=iF c8 E
     refine wc_skip (n_thn (rg (v_ z (mv (pt t0_) z) (e_ z (y_callL j_en_379 z ((table_Table_of.calls (H.get 0 z)).mono ?_))))))
     rintro _ w ⟨rfl,K⟩
     have H:=H.appX 0 z K
     refine ⟨_,z,(v_ z (mv (.int .i64 x1.1) z) (v_ z (mv (.int .i64 x3.1) z) (v_ z (r_add z z) (v_ z (r_nilck z) (v_ z (r_faddr j_fa_235_0 z) ?_)))))⟩
     obtain ⟨⟨g9,g10⟩,E⟩:=grd_some E
     refine v_ z (r_iaddrA j_ar_232 z z g9 g10) (v_ z (r_load j_sc_5 z (tab_exps (H.get 0 z) g9 g10)) (v_ z (sg (.int .u8 (at_ 0 exps (i64.wrap (x1.1 + x3.1)))) z) (nl (wc_ret ?_))))
     cases E
     exact ⟨.inl z,_,tk0 z ⟨resN z (rv_t rv_nil),z,H.sub1 0 z⟩⟩
def table_least.f (a0 : Int) : Option (Int):=bif decide (Int.tmod a0 255 < 0) then (some (i64.wrap ((Int.tmod a0 255) + 255))) else (some (Int.tmod a0 255))
theorem table_least.calls {w0 : World} {a0 : Int} {r : Int}  (E : table_least.f a0 = some r) :
   Calls Tryz.prog 380 #[.int .i64 a0] w0 fun e w'=>e = .returned (.int .i64 r) ∧ St no w0 w' []:=by
 have H:=St.nil no w0
 unfold table_least.f at E
 refine calls_of_wc (N:=10) (args:=[.int .i64 a0]) Tryz.func380 z z (by simp) ?_
 refine rg (v_ z (sg (.int .i64 0) z) (nl (wc_seq (rg (v_ z (mv (.int .i64 a0) z) (v_ z (r_rem z z (by decide)) (v_ z (sg (.int .i64 (Int.tmod a0 255)) z) (nl (rg (v_ z (mv (.int .i64 (Int.tmod a0 255)) z) (v_ z (r_lss z z) (nl ?_))))))))))))
 refine wc_cond z (fun c1=>?_) (fun c1=>?_)
 · have E:=iT c1 E
   refine wc_region (v_ z (mv (.int .i64 (Int.tmod a0 255)) z) (v_ z (r_add z z) (v_ z (sg (.int .i64 (i64.wrap ((Int.tmod a0 255) + 255))) z) (nl (rg (v_ z (mv (.int .i64 (i64.wrap ((Int.tmod a0 255) + 255))) z) (v_ z (sg (.int .i64 (i64.wrap ((Int.tmod a0 255) + 255))) z) (nl (wc_ret ?_)))))))))
   cases E
   exact ⟨.inl z,_,tk0 z ⟨resN z (rv_t rv_nil),z,H.sub0⟩⟩
 · have E:=iF c1 E
   refine wc_skip (n_thn (rg (v_ z (mv (.int .i64 (Int.tmod a0 255)) z) (v_ z (sg (.int .i64 (Int.tmod a0 255)) z) (nl (wc_ret ?_))))))
   cases E
   exact ⟨.inl z,_,tk0 z ⟨resN z (rv_t rv_nil),z,H.sub0⟩⟩
def table_Table_Exp.f (a1 : Int) : Option (Int):=(table_least.f a1).bind fun x5=>grd (decide ((0 : Int) ≤ x5 ∧ x5 < 510)) (some (at_ 0 exps x5))
theorem table_Table_Exp.calls {w0 : World} {t0_ : Nat} {m0_ : Bool} {a1 : Int} {r : Int} (hf : (Rs.tab t0_ m0_).inv w0) (E : table_Table_Exp.f a1 = some r) :
   Calls Tryz.prog 378 #[pt t0_,.int .i64 a1] w0 fun e w'=>e = .returned (.int .u8 r) ∧ St (Rs.tab t0_ m0_).fp w0 w' [.tab t0_ true]:=by
 have H:=St.start hf
 unfold table_Table_Exp.f at E
 refine calls_of_wc (N:=15) (args:=[pt t0_,.int .i64 a1]) Tryz.func378 z z (by simp) ?_
 refine rg (v_ z (sg (.int .u8 0) z) (nl (wc_seq (rg (v_ z (mv (pt t0_) z) (v_ z (r_peql0 Tryz.underlying143 z z) (nl (wc_condF z (wc_skip (n_thn (wc_seq (wc_drawnW (ds:=[]) (fun w=>∃ m' : Bool,St (Rs.tab t0_ m0_).fp w0 w [.tab t0_ m']) j_mo H z z ?_))))))))))))
 have H:=H.drew
 refine wt 0 (tf 1 9) z z z (by kernel_rfl) ⟨_,H⟩ (fun w ⟨m',H⟩=>(mv (pt t0_) z)) (wt 2 #[true,false,true,false,false,false,false,false,false] z z z (by kernel_rfl) ⟨_,H⟩ (fun w ⟨m',H⟩=>(mv (.int .i64 a1) z)) (wa_one (i:=1) (l':=(tf 3 9)) z z z (by kernel_rfl) (y_callL j_en_379 z ((table_Table_of.calls (H.get 0 z)).mono ?_))))
 rintro _ w ⟨rfl,K⟩
 have H:=H.appX 0 z K
 refine ⟨_,z,⟨fun _=>⟨_,H.sel [0] z z⟩,(wt 4 #[true,true,true,false,true,false,false,false,false] z z z (by kernel_rfl) ⟨_,H.sel [0] z z⟩ (fun w ⟨m',H⟩=>(r_nilck z)) (wt 5 #[true,true,true,false,true,true,false,false,false] z z z (by kernel_rfl) ⟨_,H.sel [0] z z⟩ (fun w ⟨m',H⟩=>(r_faddr j_fa_235_0 z)) ?_))⟩⟩
 obtain ⟨x5,E6,E⟩:=bind_some E
 refine wa_one (i:=3) (l':=(tf 6 9)) z z z (by kernel_rfl) (y_callL j_en_380 z ((table_least.calls E6).mono ?_))
 rintro _ w ⟨rfl,K⟩
 have H:=H.app K
 refine ⟨_,z,⟨fun _=>⟨_,H.sel [0] z z⟩,?_⟩⟩
 obtain ⟨⟨g7,g8⟩,E⟩:=grd_some E
 refine wt 6 (tf 7 9) z z z (by kernel_rfl) ⟨_,H.sel [0] z z⟩ (fun w ⟨m',H⟩=>(r_iaddrA j_ar_232 z z g7 g8)) (wa_oneV (i:=7) (l':=(tf 8 9)) z z z (by kernel_rfl) (⟨_,H.sel [0] z z⟩) (r_load j_sc_5 z (tab_exps (H.get 0 z) g7 g8)) (wt 8 (tf 9 9) z z z (by kernel_rfl) ⟨_,H.sel [0] z z⟩ (fun w ⟨m',H⟩=>(sg (.int .u8 (at_ 0 exps x5)) z)) (wa_done (by kernel_rfl) (n_thn (wc_ret ?_)))))
 cases E
 exact ⟨.inl z,_,tk0 z ⟨resN z (rv_t rv_nil),z,H.sub1 0 z⟩⟩
def table_Table_Inv.f (a1 : Int) : Option (Int × Bool):=(table_Table_Log.f a1).bind fun x1=>bif !x1.2 then (some (0,false)) else ((table_Table_Exp.f (i64.wrap (-x1.1))).bind fun x5=>some (x5,true))
theorem table_Table_Inv.calls {w0 : World} {t0_ : Nat} {m0_ : Bool} {a1 : Int} {r : Int × Bool} (hf : (Rs.tab t0_ m0_).inv w0) (E : table_Table_Inv.f a1 = some r) :
   Calls Tryz.prog 373 #[pt t0_,.int .u8 a1] w0 fun e w'=>e = .returned (.tuple #[.int .u8 r.1,.bool r.2]) ∧ St (Rs.tab t0_ m0_).fp w0 w' [.tab t0_ true]:=by
 have H:=St.start hf
 unfold table_Table_Inv.f at E
 refine calls_of_wc (N:=20) (args:=[pt t0_,.int .u8 a1]) Tryz.func373 z z (by simp) ?_
 refine rg (v_ z (sg (.int .u8 0) z) (v_ z (sg (.bool false) z) (nl (rg (v_ z (mv (pt t0_) z) (v_ z (mv (.int .u8 a1) z) ?_))))))
 obtain ⟨x1,E2,E⟩:=bind_some E
 refine e_ z (y_callL j_en_377 z ((table_Table_Log.calls (H.get 0 z) E2).mono ?_))
 rintro _ w ⟨rfl,K⟩
 have H:=H.appX 0 z K
 refine ⟨_,z,(v_ z (r_move) (v_ z (r_extract z z) (v_ z (r_extract z z) (v_ z (sg (.int .i64 x1.1) z) (v_ z (sg (.bool x1.2) z) (nl (wc_seq (rg (v_ z (mv (.bool x1.2) z) (v_ z (r_not z) (nl ?_)))))))))))⟩
 refine wc_cond z (fun c4=>?_) (fun c4=>?_)
 · have E:=iT c4 E
   refine rg (v_ z (sg (.int .u8 0) z) (v_ z (sg (.bool false) z) (nl (wc_ret ?_))))
   cases E
   exact (r_thn ⟨.inl z,_,tk0 z ⟨resN z (rv_t (rv_t rv_nil)),z,H.sub1 0 z⟩⟩)
 · have E:=iF c4 E
   refine wc_skip (n_thn (rg (v_ z (mv (pt t0_) z) (v_ z (mv (.int .i64 x1.1) z) (v_ z (r_neg z) ?_)))))
   obtain ⟨x5,E6,E⟩:=bind_some E
   refine e_ z (y_callL j_en_378 z ((table_Table_Exp.calls (H.get 0 z) E6).mono ?_))
   rintro _ w ⟨rfl,K⟩
   have H:=H.appX 0 z K
   refine ⟨_,z,(v_ z (sg (.int .u8 x5) z) (v_ z (sg (.bool true) z) (nl (wc_ret ?_))))⟩
   cases E
   exact ⟨.inl z,_,tk0 z ⟨resN z (rv_t (rv_t rv_nil)),z,H.sub1 0 z⟩⟩
def table_Table_Pow.j0 (a2 : Int) (x1 : Int × Bool) : Option (Int):=(table_least.f a2).bind fun x14=>(table_Table_Exp.f (i64.wrap (x1.1 * x14))).bind fun x16=>some x16
def table_Table_Pow.f (a1 : Int) (a2 : Int) : Option (Int):=(table_Table_Log.f a1).bind fun x1=>bif !x1.2 then (bif !decide (a2 = 0) then (some 0) else (bif decide (a2 = 0) then (some 1) else (table_Table_Pow.j0 a2 x1))) else (bif decide (a2 = 0) then (some 1) else (table_Table_Pow.j0 a2 x1))
theorem table_Table_Pow.calls {w0 : World} {t0_ : Nat} {m0_ : Bool} {a1 : Int} {a2 : Int} {r : Int} (hf : (Rs.tab t0_ m0_).inv w0) (E : table_Table_Pow.f a1 a2 = some r) :
   Calls Tryz.prog 375 #[pt t0_,.int .u8 a1,.int .i64 a2] w0 fun e w'=>e = .returned (.int .u8 r) ∧ St (Rs.tab t0_ m0_).fp w0 w' [.tab t0_ true]:=by
 have H:=St.start hf
 unfold table_Table_Pow.f at E
 refine calls_of_wc (N:=35) (args:=[pt t0_,.int .u8 a1,.int .i64 a2]) Tryz.func375 z z (by simp) ?_
 obtain ⟨k,_⟩ : ∃ k : Nat,k = 0:=⟨0,rfl⟩
 refine rg (v_ z (sg (.int .u8 0) z) (nl (rg (v_ z (mv (pt t0_) z) (v_ z (mv (.int .u8 a1) z) ?_)))))
 obtain ⟨x1,E2,E⟩:=bind_some E
 refine e_ z (y_callL j_en_377 z ((table_Table_Log.calls (H.get 0 z) E2).mono ?_))
 rintro _ w ⟨rfl,K⟩
 have H:=H.appX 0 z K
 refine ⟨_,z,(v_ z (r_move) (v_ z (r_extract z z) (v_ z (r_extract z z) (v_ z (sg (.int .i64 x1.1) z) (v_ z (sg (.bool x1.2) z) (nl ?_))))))⟩
 refine wc_seqJ (fun t w=>∃ (k8 : Nat) (t7 : Fr),k8 ≤ k ∧ table_Table_Pow.j0 a2 x1 = some r ∧ t = upds t7 [(0,pt t0_),(2,.int .i64 a2),(6,.int .u8 0),(7,.int .i64 x1.1),(1000000,undef)] ∧ St (Rs.tab t0_ m0_).fp w0 w [.tab t0_ true]) ?_ ?_
 · refine wc_block (rg (v_ z (mv (pt t0_) z) (v_ z (r_peql0 Tryz.underlying143 z z) (v_ z (mv (.bool false) z) (on_ z z z (mv (.bool x1.2) z) (on_ z z z (r_not z) (on_ z z z (mv (.bool (!x1.2)) z) ?_)))))))
   rcases Bool.eq_false_or_eq_true (!x1.2) with c10 | c10
   · have E:=iT c10 E
     refine on_ c10 z z (mv (.int .i64 a2) z) (on_ c10 z z (r_neq z z) (on_ z z z (pT (.bool (!decide (a2 = 0))) z z c10) (v_ z (pF (.bool (!decide (a2 = 0))) z z z) (v_ z (sg (.bool (!decide (a2 = 0))) z) (nl ?_)))))
     refine wc_cond z (fun c11=>?_) (fun c11=>?_)
     · have E:=iT c11 E
       refine rg (v_ z (sg (.int .u8 0) z) (nl (wc_ret ?_)))
       cases E
       exact (r_bk (r_thn ⟨.inl z,_,tk0 z ⟨resN z (rv_t rv_nil),z,H.sub1 0 z⟩⟩))
     · have E:=iF c11 E
       refine rg (v_ z (mv (.int .i64 a2) z) (v_ z (r_eql z z) (v_ z (sg (.bool (decide (a2 = 0))) z) (nl ?_))))
       refine wc_cond z (fun c12=>?_) (fun c12=>?_)
       · have E:=iT c12 E
         refine rg (v_ z (sg (.int .u8 1) z) (nl (wc_ret ?_)))
         cases E
         exact (r_bk (r_thn ⟨.inl z,_,tk0 z ⟨resN z (rv_t rv_nil),z,H.sub1 0 z⟩⟩))
       · have E:=iF c12 E
         refine wc_skip (n_bk ?_)
         exact ⟨k,_,Nat.le_refl _,E,upds_eq ⟨z,z,z,z,z,trivial⟩,H⟩
   · have E:=iF c10 E
     refine off_ c10 z z z (off_ c10 z z z (on_ z z z (pF (.bool false) z z c10) (v_ z (pF (.bool false) z z z) (v_ z (sg (.bool false) z) (nl (wc_condF z (rg (v_ z (mv (.int .i64 a2) z) (v_ z (r_eql z z) (v_ z (sg (.bool (decide (a2 = 0))) z) (nl ?_)))))))))))
     refine wc_cond z (fun c13=>?_) (fun c13=>?_)
     · have E:=iT c13 E
       refine rg (v_ z (sg (.int .u8 1) z) (nl (wc_ret ?_)))
       cases E
       exact (r_bk (r_thn ⟨.inl z,_,tk0 z ⟨resN z (rv_t rv_nil),z,H.sub1 0 z⟩⟩))
     · have E:=iF c13 E
       refine wc_skip (n_bk ?_)
       exact ⟨k,_,Nat.le_refl _,E,upds_eq ⟨z,z,z,z,z,trivial⟩,H⟩
 rintro t w ⟨k8,t7,hk9,E,rfl,H⟩
 unfold table_Table_Pow.j0 at E
 refine rg (v_ z (mv (pt t0_) z) (v_ z (mv (.int .i64 x1.1) z) (v_ z (mv (.int .i64 a2) z) ?_)))
 obtain ⟨x14,E15,E⟩:=bind_some E
 refine e_ z (y_callL j_en_380 z ((table_least.calls E15).mono ?_))
 rintro _ w ⟨rfl,K⟩
 have H:=H.app K
 refine ⟨_,z,(v_ z (r_mul z z) ?_)⟩
 obtain ⟨x16,E17,E⟩:=bind_some E
 refine e_ z (y_callL j_en_378 z ((table_Table_Exp.calls (H.get 0 z) E17).mono ?_))
 rintro _ w ⟨rfl,K⟩
 have H:=H.appX 0 z K
 refine ⟨_,z,(v_ z (sg (.int .u8 x16) z) (nl (wc_ret ?_)))⟩
 cases E
 exact ⟨.inl z,_,tk0 z ⟨resN z (rv_t rv_nil),z,H.sub1 0 z⟩⟩
def field_byTable_pairs.l0 : Nat → List Int → List Int → List (Int) → Int → Option (List Int)
 | 0,_,_,_,_=>none
 | k + 1,a1,a2,l89,x90=>bif decide (x90 < (a1.length : Int)) then (grd (decide ((0 : Int) ≤ x90 ∧ x90 < (a1.length : Int))) (grd (decide ((0 : Int) ≤ x90 ∧ x90 < (a2.length : Int))) ((table_Table_Mul.f (at_ 0 a1 x90) (at_ 0 a2 x90)).bind fun x126=>grd (decide ((0 : Int) ≤ x90 ∧ x90 < (l89.length : Int))) (field_byTable_pairs.l0 k a1 a2 (l89.set x90.toNat x126) (i64.wrap (x90 + 1)))))) else (some l89)
def field_byTable_pairs.f (k : Nat) (a1 : List Int) (a2 : List Int) : Option (List Int):=grd (decide ((0 : Int) ≤ (a1.length : Int) ∧ (a1.length : Int) ≤ (a1.length : Int) ∧ (a1.length : Int) ≤ 140737488355328)) (field_byTable_pairs.l0 k a1 a2 (List.replicate (a1.length : Int).toNat (0 : Int)) 0)
theorem field_byTable_pairs.calls {w0 : World} {k : Nat} {t0_ : Nat} {m0_ : Bool} {a1 : List Int} {a2 : List Int} {v1_ : Value} {v2_ : Value} {r : List Int} (hf : (Rs.tab t0_ m0_).inv w0) (h1 : Rd (.of (.int .u8)) w0 (Ol (Rs.tab t0_ m0_).fp w0) v1_ a1) (h2 : Rd (.of (.int .u8)) w0 (Ol (Rs.tab t0_ m0_).fp w0) v2_ a2) (E : field_byTable_pairs.f k a1 a2 = some r) :
   Calls Tryz.prog 387 #[.agg #[pt t0_],v1_,v2_] w0 fun e w'=>∃ (m_ : Bool) (u0 : Value),e = .returned (u0) ∧ St (Rs.tab t0_ m0_).fp w0 w' [.tab t0_ m_,.own (.int .u8) 5 u0 r]:=by
 have H:=St.start hf
 unfold field_byTable_pairs.f at E
 refine calls_of_wc (N:=13) (args:=[.agg #[pt t0_],v1_,v2_]) Tryz.func387 z z (by simp) ?_
 refine rg (e_ z (y_boxS (cs:=#[pt t0_]) H z (fun b1 w H=>(v_ z (sg (.slice none 0 0) z) (nl (rg (v_ z (r_faddr j_fa_146_0 z) (v_ z (r_load j_sc_143 z (blk_cell (H.get 1 z) z)) (v_ z (r_mkF [pt t0_] [] z z) (v_ z (mv v1_ z) (v_ z (mv v2_ z) (e_ z (y_in 32 [.func (.func 374) #[pt t0_] #[],v1_,v2_] j_en_388 Tryz.func388 z z z z (rg (v_ z (sg (.slice none 0 0) z) (nl (rg (v_ z (mv v1_ z) (v_ z (r_lenR j_ul_22 (H.rd h1) z) ?_)))))))))))))))))))
 obtain ⟨⟨g67,g68,g69⟩,E⟩:=grd_some E
 refine e_ z (y_make (e:=(.int .u8)) (z0:=0) j_sl_22 z H z z g67 g68 (by omega) (by omega) (fun v66 w H=>(v_ z (sg v66 z) (nl (wc_seq (rg (v_ z (mv v1_ z) (v_ z (r_lenR j_ul_22 (H.rd h1) z) (v_ z (mv (.int .i64 0) z) (nl (wc_block ?_)))))))))))
 refine wc_loop (fun kk t w=>∃ (l89 : List (Int)) (x90 : Int) (m88 : Bool) (t111 : Fr),kk ≤ k ∧ field_byTable_pairs.l0 kk a1 a2 l89 x90 = some r ∧ t = upds t111 [(0,.func (.func 374) #[pt t0_] #[]),(1,v1_),(2,v2_),(6,.slice none 0 0),(7,v66),(13,.int .i64 (a1.length : Int)),(14,.int .i64 x90),(1000000,undef)] ∧ St (Rs.tab t0_ m0_).fp w0 w [.tab t0_ m88,.blk b1 #[pt t0_] 146,.own (.int .u8) 5 v66 l89]) k ?_ ?_
 · exact ⟨_,_,_,_,Nat.le_refl _,E,upds_eq ⟨z,z,z,z,z,z,z,z,trivial⟩,H⟩
 rintro kk t w ⟨l89,x90,m88,t111,hk110,E,rfl,H⟩
 obtain ⟨k109,rfl⟩ | rfl : (∃ k',kk = k' + 1) ∨ kk = 0:=by cases kk; exact .inr rfl; exact .inl ⟨_,rfl⟩
 rotate_left
 · cases E
 rw [field_byTable_pairs.l0] at E
 refine rg (v_ z (r_lss z z) (nl (wc_seq ?_)))
 refine wc_cond z (fun c113=>?_) (fun c113=>?_)
 · have E:=iT c113 E
   refine wc_skip (n_thn (wc_seq (wc_block (rg (v_ z (mv (.int .i64 x90) z) (v_ z (sg (.int .i64 x90) z) (nl (wc_drawnW (ds:=[13]) (fun w=>∃ m' : Bool,St (Rs.tab t0_ m0_).fp w0 w [.tab t0_ m',.blk b1 #[pt t0_] 146,.own (.int .u8) 5 v66 l89]) j_mo H z z ?_))))))))
   have H:=H.drew
   refine wt 0 (tf 1 14) z z z (by kernel_rfl) ⟨_,H⟩ (fun w ⟨m',H⟩=>(mv v66 z)) (wt 1 (tf 2 14) z z z (by kernel_rfl) ⟨_,H⟩ (fun w ⟨m',H⟩=>(mv (.int .i64 x90) z)) (wt 2 (tf 3 14) z z z (by kernel_rfl) ⟨_,H⟩ (fun w ⟨m',H⟩=>(mv (.func (.func 374) #[pt t0_] #[]) z)) (wt 3 (tf 4 14) z z z (by kernel_rfl) ⟨_,H⟩ (fun w ⟨m',H⟩=>(mv v1_ z)) (wt 4 (tf 5 14) z z z (by kernel_rfl) ⟨_,H⟩ (fun w ⟨m',H⟩=>(mv (.int .i64 x90) z)) ?_))))
   obtain ⟨⟨g122,g123⟩,E⟩:=grd_some E
   refine wt 5 (tf 6 14) z z z (by kernel_rfl) ⟨_,H⟩ (fun w ⟨m',H⟩=>(r_idx j_sl_22 (H.rd h1) z z g122 g123)) (wt 6 (tf 7 14) z z z (by kernel_rfl) ⟨_,H⟩ (fun w ⟨m',H⟩=>(r_ldI j_sc_5 (H.rd h1) g122 g123 z)) (wt 7 (tf 8 14) z z z (by kernel_rfl) ⟨_,H⟩ (fun w ⟨m',H⟩=>(mv v2_ z)) (wt 8 (tf 9 14) z z z (by kernel_rfl) ⟨_,H⟩ (fun w ⟨m',H⟩=>(mv (.int .i64 x90) z)) ?_)))
   obtain ⟨⟨g124,g125⟩,E⟩:=grd_some E
   refine wt 9 (tf 10 14) z z z (by kernel_rfl) ⟨_,H⟩ (fun w ⟨m',H⟩=>(r_idx j_sl_22 (H.rd h2) z z g124 g125)) (wt 10 (tf 11 14) z z z (by kernel_rfl) ⟨_,H⟩ (fun w ⟨m',H⟩=>(r_ldI j_sc_5 (H.rd h2) g124 g125 z)) ?_)
   obtain ⟨x126,E127,E⟩:=bind_some E
   refine wa_one (i:=11) (l':=(tf 12 14)) z z z (by kernel_rfl) (y_callvF z j_en_374 z ((table_Table_Mul.calls (H.get 0 z) E127).mono ?_))
   rintro _ w ⟨rfl,K⟩
   have H:=H.appX 0 z K
   refine ⟨_,z,⟨fun _=>⟨_,H.sel [0,1,2] z z⟩,?_⟩⟩
   obtain ⟨⟨g128,g129⟩,E⟩:=grd_some E
   refine wt 12 (tf 13 14) z z z (by kernel_rfl) ⟨_,H.sel [0,1,2] z z⟩ (fun w ⟨m',H⟩=>(r_idx j_sl_22 (own_rd (H.get 2 z)) z z g128 g129)) (wa_one (i:=13) (l':=(tf 14 14)) z z z (by kernel_rfl) (y_storeI j_sz_5 H 2 z g128 g129 z z (fun w H=>⟨fun h=>(h (by decide)).elim,(wa_done (by kernel_rfl) (n_bk (n_thn (wc_region (v_ z (r_add z z) (v_ z (mv (.int .i64 (i64.wrap (x90 + 1))) z) (wl_nil ?_)))))))⟩)))
   exact ⟨k109,Nat.lt_succ_self _,_,_,_,_,Nat.le_of_succ_le hk110,E,upds_eq ⟨z,z,z,z,z,z,z,z,trivial⟩,H⟩
 · have E:=iF c113 E
   refine wc_exit (x_thn (x_thn (x_bk (n_thn (rg (v_ z (mv v66 z) (v_ z (sg v66 z) (nl (wc_ret (⟨.inl z,v66,tk0 z ⟨resM z (rv_t rv_nil) z,(v_ z (sg v66 z) (nl (wc_ret ?_)))⟩⟩))))))))))
   cases E
   exact ⟨.inl z,_,tk0 z ⟨resN z (rv_t rv_nil),_,_,z,H.sub2 0 2 z z z⟩⟩
def field_Field_MulT.f (a1 : Int) (a2 : Int) : Option (Int):=(table_Table_Mul.f a1 a2).bind fun x1=>some x1
theorem field_Field_MulT.calls {w0 : World} {f0_ : FD} {m0_ : Bool} {a1 : Int} {a2 : Int} {r : Int} (hf : St (Rs.fld f0_).fp w0 w0 [.blk f0_.p #[.iface 146 (.agg #[pt f0_.t]),.int .i64 1] 150,.tab f0_.t m0_]) (E : field_Field_MulT.f a1 a2 = some r) :
   Calls Tryz.prog 195 #[pt f0_.p,.int .u8 a1,.int .u8 a2] w0 fun e w'=>∃ (m_ : Bool),e = .returned (.int .u8 r) ∧ St (Rs.fld f0_).fp w0 w' [.blk f0_.p #[.iface 146 (.agg #[pt f0_.t]),.int .i64 1] 150,.tab f0_.t m_]:=by
 have H:=hf
 unfold field_Field_MulT.f at E
 refine calls_of_wc (N:=16) (args:=[pt f0_.p,.int .u8 a1,.int .u8 a2]) Tryz.func195 z z (by simp) ?_
 refine rg (v_ z (sg (.int .u8 0) z) (nl (wc_seq (rg (v_ z (mv (pt f0_.p) z) (v_ z (r_peql0 Tryz.underlying79 z z) (nl (wc_condF z (wc_skip (n_thn (rg (v_ z (mv (pt f0_.p) z) (v_ z (r_nilck z) (v_ z (r_faddr j_fa_150_0 z) (v_ z (r_load j_sc_148 z (blk_cell (H.get 0 z) z)) (v_ z (mv (.int .u8 a1) z) (v_ z (mv (.int .u8 a2) z) ?_)))))))))))))))))
 obtain ⟨x1,E2,E⟩:=bind_some E
 refine e_ z (y_callI (j_mt_146_Mul _) j_en_374 z z ((table_Table_Mul.calls (H.get 1 z) E2).mono ?_))
 rintro _ w ⟨rfl,K⟩
 have H:=H.appX 1 z K
 refine ⟨_,z,(v_ z (sg (.int .u8 x1) z) (nl (wc_ret ?_)))⟩
 cases E
 exact ⟨.inl z,_,tk0 z ⟨resN z (rv_t rv_nil),_,z,H.sub2 0 1 z z z⟩⟩
def field_Field_MulS.f (k : Nat) (a1 : Int) (a2 : Int) : Option (Int):=(field_byShift_Mul.f k a1 a2).bind fun x1=>some x1
theorem field_Field_MulS.calls {w0 : World} {k : Nat} {f0_ : FD} {a1 : Int} {a2 : Int} {r : Int} (hf : St (Rs.fld f0_).fp w0 w0 [.blk f0_.p #[.iface 151 (.agg #[]),.int .i64 2] 150,.gt]) (E : field_Field_MulS.f k a1 a2 = some r) :
   Calls Tryz.prog 195 #[pt f0_.p,.int .u8 a1,.int .u8 a2] w0 fun e w'=>e = .returned (.int .u8 r) ∧ St (Rs.fld f0_).fp w0 w' [.blk f0_.p #[.iface 151 (.agg #[]),.int .i64 2] 150,.gt]:=by
 have H:=hf
 unfold field_Field_MulS.f at E
 refine calls_of_wc (N:=16) (args:=[pt f0_.p,.int .u8 a1,.int .u8 a2]) Tryz.func195 z z (by simp) ?_
 refine rg (v_ z (sg (.int .u8 0) z) (nl (wc_seq (rg (v_ z (mv (pt f0_.p) z) (v_ z (r_peql0 Tryz.underlying79 z z) (nl (wc_condF z (wc_skip (n_thn (rg (v_ z (mv (pt f0_.p) z) (v_ z (r_nilck z) (v_ z (r_faddr j_fa_150_0 z) (v_ z (r_load j_sc_148 z (blk_cell (H.get 0 z) z)) (v_ z (mv (.int .u8 a1) z) (v_ z (mv (.int .u8 a2) z) ?_)))))))))))))))))
 obtain ⟨x1,E2,E⟩:=bind_some E
 refine e_ z (y_callI (j_mt_151_Mul) j_en_390 z z ((field_byShift_Mul.calls (H.get 1 z) E2).mono ?_))
 rintro _ w ⟨rfl,K⟩
 have H:=H.appX 1 z K
 refine ⟨_,z,(v_ z (sg (.int .u8 x1) z) (nl (wc_ret ?_)))⟩
 cases E
 exact ⟨.inl z,_,tk0 z ⟨resN z (rv_t rv_nil),z,H.sub2 0 1 z z z⟩⟩
def field_Field_InvT.f (a1 : Int) : Option (Int × Bool):=(table_Table_Inv.f a1).bind fun x1=>some (x1.1,x1.2)
theorem field_Field_InvT.calls {w0 : World} {f0_ : FD} {m0_ : Bool} {a1 : Int} {r : Int × Bool} (hf : St (Rs.fld f0_).fp w0 w0 [.blk f0_.p #[.iface 146 (.agg #[pt f0_.t]),.int .i64 1] 150,.tab f0_.t m0_]) (E : field_Field_InvT.f a1 = some r) :
   Calls Tryz.prog 221 #[pt f0_.p,.int .u8 a1] w0 fun e w'=>∃ (m_ : Bool),e = .returned (.tuple #[.int .u8 r.1,.bool r.2]) ∧ St (Rs.fld f0_).fp w0 w' [.blk f0_.p #[.iface 146 (.agg #[pt f0_.t]),.int .i64 1] 150,.tab f0_.t m_]:=by
 have H:=hf
 unfold field_Field_InvT.f at E
 refine calls_of_wc (N:=16) (args:=[pt f0_.p,.int .u8 a1]) Tryz.func221 z z (by simp) ?_
 refine rg (v_ z (sg (.int .u8 0) z) (v_ z (sg (.bool false) z) (nl (wc_seq (rg (v_ z (mv (pt f0_.p) z) (v_ z (r_peql0 Tryz.underlying79 z z) (nl (wc_condF z (wc_skip (n_thn (rg (v_ z (mv (pt f0_.p) z) (v_ z (r_nilck z) (v_ z (r_faddr j_fa_150_0 z) (v_ z (r_load j_sc_148 z (blk_cell (H.get 0 z) z)) (v_ z (mv (.int .u8 a1) z) ?_)))))))))))))))))
 obtain ⟨x1,E2,E⟩:=bind_some E
 refine e_ z (y_callI (j_mt_146_Inv _) j_en_373 z z ((table_Table_Inv.calls (H.get 1 z) E2).mono ?_))
 rintro _ w ⟨rfl,K⟩
 have H:=H.appX 1 z K
 refine ⟨_,z,(v_ z (r_extract z z) (v_ z (r_extract z z) (v_ z (sg (.int .u8 x1.1) z) (v_ z (sg (.bool x1.2) z) (nl (wc_ret ?_))))))⟩
 cases E
 exact ⟨.inl z,_,tk0 z ⟨resN z (rv_t (rv_t rv_nil)),_,z,H.sub2 0 1 z z z⟩⟩
def field_Field_InvS.f (k : Nat) (a1 : Int) : Option (Int × Bool):=(field_byShift_Inv.f k a1).bind fun x1=>some (x1.1,x1.2)
theorem field_Field_InvS.calls {w0 : World} {k : Nat} {f0_ : FD} {a1 : Int} {r : Int × Bool} (hf : St (Rs.fld f0_).fp w0 w0 [.blk f0_.p #[.iface 151 (.agg #[]),.int .i64 2] 150,.gt]) (E : field_Field_InvS.f k a1 = some r) :
   Calls Tryz.prog 221 #[pt f0_.p,.int .u8 a1] w0 fun e w'=>e = .returned (.tuple #[.int .u8 r.1,.bool r.2]) ∧ St (Rs.fld f0_).fp w0 w' [.blk f0_.p #[.iface 151 (.agg #[]),.int .i64 2] 150,.gt]:=by
 have H:=hf
 unfold field_Field_InvS.f at E
 refine calls_of_wc (N:=16) (args:=[pt f0_.p,.int .u8 a1]) Tryz.func221 z z (by simp) ?_
 refine rg (v_ z (sg (.int .u8 0) z) (v_ z (sg (.bool false) z) (nl (wc_seq (rg (v_ z (mv (pt f0_.p) z) (v_ z (r_peql0 Tryz.underlying79 z z) (nl (wc_condF z (wc_skip (n_thn (rg (v_ z (mv (pt f0_.p) z) (v_ z (r_nilck z) (v_ z (r_faddr j_fa_150_0 z) (v_ z (r_load j_sc_148 z (blk_cell (H.get 0 z) z)) (v_ z (mv (.int .u8 a1) z) ?_)))))))))))))))))
 obtain ⟨x1,E2,E⟩:=bind_some E
 refine e_ z (y_callI (j_mt_151_Inv) j_en_389 z z ((field_byShift_Inv.calls (H.get 1 z) E2).mono ?_))
 rintro _ w ⟨rfl,K⟩
 have H:=H.appX 1 z K
 refine ⟨_,z,(v_ z (r_extract z z) (v_ z (r_extract z z) (v_ z (sg (.int .u8 x1.1) z) (v_ z (sg (.bool x1.2) z) (nl (wc_ret ?_))))))⟩
 cases E
 exact ⟨.inl z,_,tk0 z ⟨resN z (rv_t (rv_t rv_nil)),z,H.sub2 0 1 z z z⟩⟩
def field_Field_PowT.f (a1 : Int) (a2 : Int) : Option (Int):=(table_Table_Pow.f a1 a2).bind fun x1=>some x1
theorem field_Field_PowT.calls {w0 : World} {f0_ : FD} {m0_ : Bool} {a1 : Int} {a2 : Int} {r : Int} (hf : St (Rs.fld f0_).fp w0 w0 [.blk f0_.p #[.iface 146 (.agg #[pt f0_.t]),.int .i64 1] 150,.tab f0_.t m0_]) (E : field_Field_PowT.f a1 a2 = some r) :
   Calls Tryz.prog 197 #[pt f0_.p,.int .u8 a1,.int .i64 a2] w0 fun e w'=>∃ (m_ : Bool),e = .returned (.int .u8 r) ∧ St (Rs.fld f0_).fp w0 w' [.blk f0_.p #[.iface 146 (.agg #[pt f0_.t]),.int .i64 1] 150,.tab f0_.t m_]:=by
 have H:=hf
 unfold field_Field_PowT.f at E
 refine calls_of_wc (N:=16) (args:=[pt f0_.p,.int .u8 a1,.int .i64 a2]) Tryz.func197 z z (by simp) ?_
 refine rg (v_ z (sg (.int .u8 0) z) (nl (wc_seq (rg (v_ z (mv (pt f0_.p) z) (v_ z (r_peql0 Tryz.underlying79 z z) (nl (wc_condF z (wc_skip (n_thn (rg (v_ z (mv (pt f0_.p) z) (v_ z (r_nilck z) (v_ z (r_faddr j_fa_150_0 z) (v_ z (r_load j_sc_148 z (blk_cell (H.get 0 z) z)) (v_ z (mv (.int .u8 a1) z) (v_ z (mv (.int .i64 a2) z) ?_)))))))))))))))))
 obtain ⟨x1,E2,E⟩:=bind_some E
 refine e_ z (y_callI (j_mt_146_Pow _) j_en_375 z z ((table_Table_Pow.calls (H.get 1 z) E2).mono ?_))
 rintro _ w ⟨rfl,K⟩
 have H:=H.appX 1 z K
 refine ⟨_,z,(v_ z (sg (.int .u8 x1) z) (nl (wc_ret ?_)))⟩
 cases E
 exact ⟨.inl z,_,tk0 z ⟨resN z (rv_t rv_nil),_,z,H.sub2 0 1 z z z⟩⟩
def field_Field_PowS.f (k : Nat) (a1 : Int) (a2 : Int) : Option (Int):=(field_byShift_Pow.f k a1 a2).bind fun x1=>some x1
theorem field_Field_PowS.calls {w0 : World} {k : Nat} {f0_ : FD} {a1 : Int} {a2 : Int} {r : Int} (hf : St (Rs.fld f0_).fp w0 w0 [.blk f0_.p #[.iface 151 (.agg #[]),.int .i64 2] 150,.gt]) (E : field_Field_PowS.f k a1 a2 = some r) :
   Calls Tryz.prog 197 #[pt f0_.p,.int .u8 a1,.int .i64 a2] w0 fun e w'=>e = .returned (.int .u8 r) ∧ St (Rs.fld f0_).fp w0 w' [.blk f0_.p #[.iface 151 (.agg #[]),.int .i64 2] 150,.gt]:=by
 have H:=hf
 unfold field_Field_PowS.f at E
 refine calls_of_wc (N:=16) (args:=[pt f0_.p,.int .u8 a1,.int .i64 a2]) Tryz.func197 z z (by simp) ?_
 refine rg (v_ z (sg (.int .u8 0) z) (nl (wc_seq (rg (v_ z (mv (pt f0_.p) z) (v_ z (r_peql0 Tryz.underlying79 z z) (nl (wc_condF z (wc_skip (n_thn (rg (v_ z (mv (pt f0_.p) z) (v_ z (r_nilck z) (v_ z (r_faddr j_fa_150_0 z) (v_ z (r_load j_sc_148 z (blk_cell (H.get 0 z) z)) (v_ z (mv (.int .u8 a1) z) (v_ z (mv (.int .i64 a2) z) ?_)))))))))))))))))
 obtain ⟨x1,E2,E⟩:=bind_some E
 refine e_ z (y_callI (j_mt_151_Pow) j_en_391 z z ((field_byShift_Pow.calls (H.get 1 z) E2).mono ?_))
 rintro _ w ⟨rfl,K⟩
 have H:=H.appX 1 z K
 refine ⟨_,z,(v_ z (sg (.int .u8 x1) z) (nl (wc_ret ?_)))⟩
 cases E
 exact ⟨.inl z,_,tk0 z ⟨resN z (rv_t rv_nil),z,H.sub2 0 1 z z z⟩⟩
def field_Field_PairsT.f (k : Nat) (a1 : List Int) (a2 : List Int) : Option (List Int):=bif decide (min2 (a1.length : Int) (a2.length : Int) = 0) then (some ([] : List (Int))) else (grd (decide ((0 : Int) ≤ min2 (a1.length : Int) (a2.length : Int) ∧ min2 (a1.length : Int) (a2.length : Int) ≤ (a1.length : Int))) (grd (decide ((0 : Int) ≤ min2 (a1.length : Int) (a2.length : Int) ∧ min2 (a1.length : Int) (a2.length : Int) ≤ (a2.length : Int))) ((field_byTable_pairs.f k ((a1.take ((min2 (a1.length : Int) (a2.length : Int)).toNat)).drop 0) ((a2.take ((min2 (a1.length : Int) (a2.length : Int)).toNat)).drop 0)).bind fun x27=>some x27)))
theorem field_Field_PairsT.calls {w0 : World} {k : Nat} {f0_ : FD} {m0_ : Bool} {a1 : List Int} {a2 : List Int} {v1_ : Value} {v2_ : Value} {r : List Int} (hf : St (Rs.fld f0_).fp w0 w0 [.blk f0_.p #[.iface 146 (.agg #[pt f0_.t]),.int .i64 1] 150,.tab f0_.t m0_]) (h1 : Rd (.of (.int .u8)) w0 (Ol (Rs.fld f0_).fp w0) v1_ a1) (h2 : Rd (.of (.int .u8)) w0 (Ol (Rs.fld f0_).fp w0) v2_ a2) (E : field_Field_PairsT.f k a1 a2 = some r) :
   Calls Tryz.prog 248 #[pt f0_.p,v1_,v2_] w0 fun e w'=>∃ (m_ : Bool) (u0 : Value),e = .returned (u0) ∧ St (Rs.fld f0_).fp w0 w' [.blk f0_.p #[.iface 146 (.agg #[pt f0_.t]),.int .i64 1] 150,.tab f0_.t m_,.own (.int .u8) 5 u0 r]:=by
 have H:=hf
 unfold field_Field_PairsT.f at E
 refine calls_of_wc (N:=32) (args:=[pt f0_.p,v1_,v2_]) Tryz.func248 z z (by simp) ?_
 refine rg (v_ z (sg (.slice none 0 0) z) (nl (rg (v_ z (mv v1_ z) (v_ z (r_lenR j_ul_22 (H.rd h1) z) (v_ z (mv v2_ z) (v_ z (r_lenR j_ul_22 (H.rd h2) z) (v_ z (r_min z z) (v_ z (sg (.int .i64 (min2 (a1.length : Int) (a2.length : Int))) z) (nl (wc_seq (rg (v_ z (mv (pt f0_.p) z) (v_ z (r_peql0 Tryz.underlying79 z z) (v_ z (mv (.bool false) z) (on_ z z z (mv (.int .i64 (min2 (a1.length : Int) (a2.length : Int))) z) (on_ z z z (r_eql z z) (v_ z (pF (.bool (decide (min2 (a1.length : Int) (a2.length : Int) = 0))) z z z) (nl ?_)))))))))))))))))))
 refine wc_cond z (fun c2=>?_) (fun c2=>?_)
 · have E:=iT c2 E
   refine rg (v_ z (sg (.slice none 0 0) z) (nl (wc_ret ?_)))
   have H:=H.nilOwn (.int .u8) 5
   cases E
   exact (r_thn ⟨.inl z,_,tk0 z ⟨resN z (rv_t rv_nil),_,_,z,H.sub3 0 1 2 z z z z z z⟩⟩)
 · have E:=iF c2 E
   refine wc_skip (n_thn (wc_seq (wc_drawnW (ds:=[]) (fun w=>∃ m' : Bool,St (Rs.fld f0_).fp w0 w [.blk f0_.p #[.iface 146 (.agg #[pt f0_.t]),.int .i64 1] 150,.tab f0_.t m']) j_mo H z z ?_)))
   have H:=H.drew
   refine wt 0 (tf 1 14) z z z (by kernel_rfl) ⟨_,H⟩ (fun w ⟨m',H⟩=>(mv (pt f0_.p) z)) (wt 1 (tf 2 14) z z z (by kernel_rfl) ⟨_,H⟩ (fun w ⟨m',H⟩=>(r_nilck z)) (wt 2 (tf 3 14) z z z (by kernel_rfl) ⟨_,H⟩ (fun w ⟨m',H⟩=>(r_faddr j_fa_150_0 z)) (wt 3 (tf 4 14) z z z (by kernel_rfl) ⟨_,H⟩ (fun w ⟨m',H⟩=>(r_load j_sc_148 z (blk_cell (H.get 0 z) z))) (wt 4 (tf 5 14) z z z (by kernel_rfl) ⟨_,H⟩ (fun w ⟨m',H⟩=>(mv v1_ z)) (wt 5 (tf 6 14) z z z (by kernel_rfl) ⟨_,H⟩ (fun w ⟨m',H⟩=>(mv (.int .i64 (min2 (a1.length : Int) (a2.length : Int))) z)) ?_)))))
   obtain ⟨⟨g17,g18⟩,E⟩:=grd_some E
   have p20 : 0 ≤ (min2 (a1.length : Int) (a2.length : Int)).toNat:=by omega
   have p21 : (min2 (a1.length : Int) (a2.length : Int)).toNat ≤ a1.length:=by omega
   refine wt 6 (tf 7 14) z z z (by kernel_rfl) ⟨_,H⟩ (fun w ⟨m',H⟩=>(r_slcHR j_sl_22 (H.rd h1) z z g17 g18)) (wt 7 (tf 8 14) z z z (by kernel_rfl) ⟨_,H⟩ (fun w ⟨m',H⟩=>(mv v2_ z)) (wt 8 (tf 9 14) z z z (by kernel_rfl) ⟨_,H⟩ (fun w ⟨m',H⟩=>(mv (.int .i64 (min2 (a1.length : Int) (a2.length : Int))) z)) ?_))
   obtain ⟨⟨g22,g23⟩,E⟩:=grd_some E
   have p25 : 0 ≤ (min2 (a1.length : Int) (a2.length : Int)).toNat:=by omega
   have p26 : (min2 (a1.length : Int) (a2.length : Int)).toNat ≤ a2.length:=by omega
   refine wt 9 (tf 10 14) z z z (by kernel_rfl) ⟨_,H⟩ (fun w ⟨m',H⟩=>(r_slcHR j_sl_22 (H.rd h2) z z g22 g23)) (wt 10 (tf 11 14) z z z (by kernel_rfl) ⟨_,H⟩ (fun w ⟨m',H⟩=>(r_nilckI z)) (wt 11 (tf 12 14) z z z (by kernel_rfl) ⟨_,H⟩ (fun w ⟨m',H⟩=>(mv (.iface 146 (.agg #[pt f0_.t])) z)) ?_))
   obtain ⟨x27,E28,E⟩:=bind_some E
   refine wa_one (i:=12) (l':=(tf 13 14)) z z z (by kernel_rfl) (y_callI (j_mt_146_pairs _) j_en_387 z z ((field_byTable_pairs.calls (H.get 1 z) (H.argX 1 z (Rd.slv (H.rd h1) p20 p21)) (H.argX 1 z (Rd.slv (H.rd h2) p25 p26)) E28).mono ?_))
   rintro _ w ⟨m30,v29,rfl,K⟩
   have H:=H.appX 1 z K
   refine ⟨_,z,⟨fun _=>⟨_,H.sel [0,1] z z⟩,(wa_oneV (i:=13) (l':=(tf 14 14)) z z z (by kernel_rfl) (⟨_,H.sel [0,1] z z⟩) (sg v29 z) (wa_done (by kernel_rfl) (n_thn (wc_ret ?_))))⟩⟩
   cases E
   exact ⟨.inl z,_,tk0 z ⟨resN z (rv_t rv_nil),_,_,z,H.sub3 0 1 2 z z z z z z⟩⟩
def field_Field_PairsS.f (k : Nat) (a1 : List Int) (a2 : List Int) : Option (List Int):=bif decide (min2 (a1.length : Int) (a2.length : Int) = 0) then (some ([] : List (Int))) else (grd (decide ((0 : Int) ≤ min2 (a1.length : Int) (a2.length : Int) ∧ min2 (a1.length : Int) (a2.length : Int) ≤ (a1.length : Int))) (grd (decide ((0 : Int) ≤ min2 (a1.length : Int) (a2.length : Int) ∧ min2 (a1.length : Int) (a2.length : Int) ≤ (a2.length : Int))) ((field_byShift_pairs.f k ((a1.take ((min2 (a1.length : Int) (a2.length : Int)).toNat)).drop 0) ((a2.take ((min2 (a1.length : Int) (a2.length : Int)).toNat)).drop 0)).bind fun x13=>some x13)))
theorem field_Field_PairsS.calls {w0 : World} {k : Nat} {f0_ : FD} {a1 : List Int} {a2 : List Int} {v1_ : Value} {v2_ : Value} {r : List Int} (hf : St (Rs.fld f0_).fp w0 w0 [.blk f0_.p #[.iface 151 (.agg #[]),.int .i64 2] 150,.gt]) (h1 : Rd (.of (.int .u8)) w0 (Ol (Rs.fld f0_).fp w0) v1_ a1) (h2 : Rd (.of (.int .u8)) w0 (Ol (Rs.fld f0_).fp w0) v2_ a2) (E : field_Field_PairsS.f k a1 a2 = some r) :
   Calls Tryz.prog 248 #[pt f0_.p,v1_,v2_] w0 fun e w'=>∃ (u0 : Value),e = .returned (u0) ∧ St (Rs.fld f0_).fp w0 w' [.blk f0_.p #[.iface 151 (.agg #[]),.int .i64 2] 150,.gt,.own (.int .u8) 5 u0 r]:=by
 have H:=hf
 unfold field_Field_PairsS.f at E
 refine calls_of_wc (N:=32) (args:=[pt f0_.p,v1_,v2_]) Tryz.func248 z z (by simp) ?_
 refine rg (v_ z (sg (.slice none 0 0) z) (nl (rg (v_ z (mv v1_ z) (v_ z (r_lenR j_ul_22 (H.rd h1) z) (v_ z (mv v2_ z) (v_ z (r_lenR j_ul_22 (H.rd h2) z) (v_ z (r_min z z) (v_ z (sg (.int .i64 (min2 (a1.length : Int) (a2.length : Int))) z) (nl (wc_seq (rg (v_ z (mv (pt f0_.p) z) (v_ z (r_peql0 Tryz.underlying79 z z) (v_ z (mv (.bool false) z) (on_ z z z (mv (.int .i64 (min2 (a1.length : Int) (a2.length : Int))) z) (on_ z z z (r_eql z z) (v_ z (pF (.bool (decide (min2 (a1.length : Int) (a2.length : Int) = 0))) z z z) (nl ?_)))))))))))))))))))
 refine wc_cond z (fun c2=>?_) (fun c2=>?_)
 · have E:=iT c2 E
   refine rg (v_ z (sg (.slice none 0 0) z) (nl (wc_ret ?_)))
   have H:=H.nilOwn (.int .u8) 5
   cases E
   exact (r_thn ⟨.inl z,_,tk0 z ⟨resN z (rv_t rv_nil),_,z,H.sub3 0 1 2 z z z z z z⟩⟩)
 · have E:=iF c2 E
   refine wc_skip (n_thn (wc_seq (wc_drawnS (ds:=[]) j_mo H z z ?_)))
   have H:=H.drew
   refine wt 0 (tf 1 14) z z z (by kernel_rfl) H (fun w H=>(mv (pt f0_.p) z)) (wt 1 (tf 2 14) z z z (by kernel_rfl) H (fun w H=>(r_nilck z)) (wt 2 (tf 3 14) z z z (by kernel_rfl) H (fun w H=>(r_faddr j_fa_150_0 z)) (wt 3 (tf 4 14) z z z (by kernel_rfl) H (fun w H=>(r_load j_sc_148 z (blk_cell (H.get 0 z) z))) (wt 4 (tf 5 14) z z z (by kernel_rfl) H (fun w H=>(mv v1_ z)) (wt 5 (tf 6 14) z z z (by kernel_rfl) H (fun w H=>(mv (.int .i64 (min2 (a1.length : Int) (a2.length : Int))) z)) ?_)))))
   obtain ⟨⟨g3,g4⟩,E⟩:=grd_some E
   have p6 : 0 ≤ (min2 (a1.length : Int) (a2.length : Int)).toNat:=by omega
   have p7 : (min2 (a1.length : Int) (a2.length : Int)).toNat ≤ a1.length:=by omega
   refine wt 6 (tf 7 14) z z z (by kernel_rfl) H (fun w H=>(r_slcHR j_sl_22 (H.rd h1) z z g3 g4)) (wt 7 (tf 8 14) z z z (by kernel_rfl) H (fun w H=>(mv v2_ z)) (wt 8 (tf 9 14) z z z (by kernel_rfl) H (fun w H=>(mv (.int .i64 (min2 (a1.length : Int) (a2.length : Int))) z)) ?_))
   obtain ⟨⟨g8,g9⟩,E⟩:=grd_some E
   have p11 : 0 ≤ (min2 (a1.length : Int) (a2.length : Int)).toNat:=by omega
   have p12 : (min2 (a1.length : Int) (a2.length : Int)).toNat ≤ a2.length:=by omega
   refine wt 9 (tf 10 14) z z z (by kernel_rfl) H (fun w H=>(r_slcHR j_sl_22 (H.rd h2) z z g8 g9)) (wt 10 (tf 11 14) z z z (by kernel_rfl) H (fun w H=>(r_nilckI z)) (wt 11 (tf 12 14) z z z (by kernel_rfl) H (fun w H=>(mv (.iface 151 (.agg #[])) z)) ?_))
   obtain ⟨x13,E14,E⟩:=bind_some E
   refine wa_one (i:=12) (l':=(tf 13 14)) z z z (by kernel_rfl) (y_callI (j_mt_151_pairs) j_en_392 z z ((field_byShift_pairs.calls (H.get 1 z) (H.argX 1 z (Rd.slv (H.rd h1) p6 p7)) (H.argX 1 z (Rd.slv (H.rd h2) p11 p12)) E14).mono ?_))
   rintro _ w ⟨v15,rfl,K⟩
   have H:=H.appX 1 z K
   refine ⟨_,z,⟨fun _=>H.sel [0,1] z z,(wa_oneV (i:=13) (l':=(tf 14 14)) z z z (by kernel_rfl) ((H.sel [0,1] z z)) (sg v15 z) (wa_done (by kernel_rfl) (n_thn (wc_ret ?_))))⟩⟩
   cases E
   exact ⟨.inl z,_,tk0 z ⟨resN z (rv_t rv_nil),_,z,H.sub3 0 1 2 z z z z z z⟩⟩
end Go.Proofs.YtkndgkbgbmhjoaaGreatDoor.Gw
