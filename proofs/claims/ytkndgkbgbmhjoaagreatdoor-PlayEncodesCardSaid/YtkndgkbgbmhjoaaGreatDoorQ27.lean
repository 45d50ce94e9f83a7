/- The card of the law that what a desk encodes is read back from what it tells: a part of its proof. The conditions are those of the statement. -/
import Derived.Test.YtkndgkbgbmhjoaaGreatDoorQ26
namespace Go.Proofs.YtkndgkbgbmhjoaaGreatDoor.Gw
open Go Go.RowKit
set_option linter.unusedVariables false
set_option linter.unusedSimpArgs false
set_option linter.unusedSectionVars false
variable [LibO]
set_option linter.unnecessarySimpa false
set_option maxRecDepth 100000
set_option maxHeartbeats 4000000
open Go.IntKind (i8 i16 i32 i64 u8 u16 u32 u64)
def law10_Code.j0 (a1 : Int) (a2 : Int) (x5 : Int) : Option ((Int × Int × Int)):=grd (decide (i64.wrap (x5 - 1) ≠ 0)) (some ((x5,i64.wrap (1 + (Int.tmod (i64.wrap a1) (i64.wrap (x5 - 1)))),Int.tmod (i64.wrap a2) 255)))
def law10_Code.f (a0 : Int) (a1 : Int) (a2 : Int) : Option ((Int × Int × Int)):=bif decide (Int.tmod a0 32 = 31) then (law10_Code.j0 a1 a2 (i64.wrap (30 + (i64.wrap (Int.tmod a1 40))))) else (law10_Code.j0 a1 a2 (i64.wrap (2 + (i64.wrap (Int.tmod a0 21)))))
theorem law10_Code.calls {w0 : World} {a0 : Int} {a1 : Int} {a2 : Int} {r : (Int × Int × Int)}  (E : law10_Code.f a0 a1 a2 = some r) :
   Calls Tryz.prog 4 #[.int .u8 a0,.int .u8 a1,.int .u8 a2] w0 fun e w'=>e = .returned (.agg #[.int .i64 r.1,.int .i64 r.2.1,.int .i64 r.2.2]) ∧ St no w0 w' []:=by
 have H:=St.nil no w0
 unfold law10_Code.f at E
 refine calls_of_wc (N:=33) (args:=[.int .u8 a0,.int .u8 a1,.int .u8 a2]) Tryz.func4 z z (by simp) ?_
 obtain ⟨k,_⟩ : ∃ k : Nat,k = 0:=⟨0,rfl⟩
 refine rg (e_ z (y_allocS r_zr_24 H (fun b1 w H=>(nl (rg (v_ z (mv (.int .u8 a0) z) (v_ z (r_rem z z (by decide)) (v_ z (r_conv z Tryz.underlying5 Tryz.underlying3) (v_ z (r_add z z) (v_ z (mv (.int .u8 a2) z) (v_ z (r_conv z Tryz.underlying5 Tryz.underlying3) (v_ z (r_rem z z (by decide)) (v_ z (r_build (cs:=[.int .i64 (i64.wrap (2 + (i64.wrap (Int.tmod a0 21)))),.int .i64 0,.int .i64 (Int.tmod (i64.wrap a2) 255)]) r_bd_24 z) (e_ z (y_allocS r_zr_24 H (fun b2 w H=>(s_ (y_storeBA r_sz_24 H 1 z z z z z z (fun w H=>(nl ?_))))))))))))))))))))
 refine wc_seqJ (fun t w=>∃ (k7 : Nat) (x5 : Int) (t6 : Fr),k7 ≤ k ∧ law10_Code.j0 a1 a2 x5 = some r ∧ t = upds t6 [(1,.int .u8 a1),(6,pt b1),(7,pt b2),(1000000,undef)] ∧ St no w0 w [.blk b1 #[.int .i64 0,.int .i64 0,.int .i64 0] 24,.blk b2 #[.int .i64 x5,.int .i64 0,.int .i64 (Int.tmod (i64.wrap a2) 255)] 24]) ?_ ?_
 · refine rg (v_ z (mv (.int .u8 a0) z) (v_ z (r_rem z z (by decide)) (v_ z (r_eql z z) (nl ?_))))
   refine wc_cond z (fun c9=>?_) (fun c9=>?_)
   · have E:=iT c9 E
     refine wc_region (v_ z (mv (.int .u8 a1) z) (v_ z (r_rem z z (by decide)) (v_ z (r_conv z Tryz.underlying5 Tryz.underlying3) (v_ z (r_add z z) (v_ z (r_faddr e_fa_24_0 z) (s_ (y_storeB e_sz_3 H 1 z z z z z (fun w H=>(wl_nil ?_)))))))))
     exact ⟨k,_,_,Nat.le_refl _,E,upds_eq ⟨z,z,z,z,trivial⟩,H⟩
   · have E:=iF c9 E
     refine wc_skip ?_
     exact ⟨k,_,_,Nat.le_refl _,E,upds_eq ⟨z,z,z,z,trivial⟩,H⟩
 rintro t w ⟨k7,x5,t6,hk8,E,rfl,H⟩
 unfold law10_Code.j0 at E
 refine rg (v_ z (mv (.int .u8 a1) z) (v_ z (r_conv z Tryz.underlying5 Tryz.underlying3) (v_ z (r_faddr e_fa_24_0 z) (v_ z (r_load e_sc_3 z (blk_cell (H.get 1 z) z)) (v_ z (r_sub z z) ?_)))))
 obtain ⟨g10,E⟩:=grd_some E
 refine v_ z (r_rem z z g10) (v_ z (r_add z z) (v_ z (r_faddr e_fa_24_1 z) (s_ (y_storeB e_sz_3 H 1 z z z z z (fun w H=>(nl (rg (v_ z (r_loadB (l:=[.int .i64 x5,.int .i64 (i64.wrap (1 + (Int.tmod (i64.wrap a1) (i64.wrap (x5 - 1))))),.int .i64 (Int.tmod (i64.wrap a2) 255)]) e_ag_24 (H.get 1 z) z z z) (s_ (y_storeBA r_sz_24 H 0 z z z z z z (fun w H=>(nl (wc_ret ?_)))))))))))))
 cases E
 exact ⟨.inl z,_,tk0 z ⟨resN z (rv_c z e_ag_24 (blk_range (n:=3) (H.get 0 z) z) z rv_nil),z,H.sub0⟩⟩
def law11_Msg.f (a0 : Int × Int × Int) (a1 : List Int) : Option (List Int):=grd (decide ((0 : Int) ≤ a0.2.1 ∧ a0.2.1 ≤ a0.2.1 ∧ a0.2.1 ≤ 140737488355328)) (some (cpy 0 (List.replicate a0.2.1.toNat (0 : Int)).length a1 (List.replicate a0.2.1.toNat (0 : Int))))
theorem law11_Msg.calls {w0 : World} {a0 : Int × Int × Int} {a1 : List Int} {v1_ : Value} {r : List Int} (h1 : Rd (.of (.int .u8)) w0 (Ol no w0) v1_ a1) (E : law11_Msg.f a0 a1 = some r) :
   Calls Tryz.prog 5 #[.agg #[.int .i64 a0.1,.int .i64 a0.2.1,.int .i64 a0.2.2],v1_] w0 fun e w'=>∃ (u0 : Value),e = .returned (u0) ∧ St no w0 w' [.own (.int .u8) 5 u0 r]:=by
 have H:=St.nil no w0
 unfold law11_Msg.f at E
 refine calls_of_wc (N:=13) (args:=[.agg #[.int .i64 a0.1,.int .i64 a0.2.1,.int .i64 a0.2.2],v1_]) Tryz.func5 z z (by simp) ?_
 refine rg (e_ z (y_boxS (cs:=#[.int .i64 a0.1,.int .i64 a0.2.1,.int .i64 a0.2.2]) H z (fun b1 w H=>(v_ z (sg (.slice none 0 0) z) (nl (rg (v_ z (r_faddr e_fa_24_1 z) (v_ z (r_load e_sc_3 z (blk_cell (H.get 0 z) z)) ?_))))))))
 obtain ⟨⟨g3,g4,g5⟩,E⟩:=grd_some E
 refine e_ z (y_make (e:=(.int .u8)) (z0:=0) e_sl_22 z H z z g3 g4 (by omega) (by omega) (fun v2 w H=>(v_ z (sg v2 z) (nl (rg (v_ z (mv v2 z) (v_ z (mv v1_ z) (e_ z (y_copy e_sl_22 H 1 z (H.rd h1) z z (fun w H=>(nl (rg (v_ z (mv v2 z) (v_ z (sg v2 z) (nl (wc_ret ?_))))))))))))))))
 cases E
 exact ⟨.inl z,_,tk0 z ⟨resN z (rv_t rv_nil),_,z,H.sub1 1 z⟩⟩
def ref10_Right.f (a0 : Int × Int × Int) : Option (Int):=bif decide (a0.2.1 < 1) then (some 10) else (bif decide (a0.1 ≤ a0.2.1) then (some 10) else (bif decide (255 < a0.1) then (some 10) else (bif decide (a0.2.2 < 0) then (some 10) else (bif decide (254 < a0.2.2) then (some 10) else (some 0)))))
theorem ref10_Right.calls {w0 : World} {a0 : Int × Int × Int} {r : Int}  (E : ref10_Right.f a0 = some r) :
   Calls Tryz.prog 11 #[.agg #[.int .i64 a0.1,.int .i64 a0.2.1,.int .i64 a0.2.2]] w0 fun e w'=>e = .returned (.int .i64 r) ∧ St no w0 w' []:=by
 have H:=St.nil no w0
 unfold ref10_Right.f at E
 refine calls_of_wc (N:=28) (args:=[.agg #[.int .i64 a0.1,.int .i64 a0.2.1,.int .i64 a0.2.2]]) Tryz.func11 z z (by simp) ?_
 refine rg (e_ z (y_boxS (cs:=#[.int .i64 a0.1,.int .i64 a0.2.1,.int .i64 a0.2.2]) H z (fun b1 w H=>(v_ z (sg (.int .i64 0) z) (nl (wc_seq (rg (v_ z (r_faddr e_fa_24_1 z) (v_ z (r_load e_sc_3 z (blk_cell (H.get 0 z) z)) (v_ z (r_lss z z) (v_ z (mv (.bool (decide (a0.2.1 < 1))) z) ?_)))))))))))
 rcases Bool.eq_false_or_eq_true (decide (a0.2.1 < 1)) with c2 | c2
 · have E:=iT c2 E
   refine off_ c2 z z z (off_ c2 z z z (off_ c2 z z z (off_ c2 z z z (off_ c2 z z z (v_ z (pT (.bool true) z z c2) (v_ z (mv (.bool true) z) (off_ z z z z (off_ z z z z (off_ z z z z (v_ z (pT (.bool true) z z z) (v_ z (mv (.bool true) z) (off_ z z z z (off_ z z z z (off_ z z z z (v_ z (pT (.bool true) z z z) (v_ z (mv (.bool true) z) (off_ z z z z (off_ z z z z (off_ z z z z (v_ z (pT (.bool true) z z z) (nl (wc_condT z (rg (v_ z (sg (.int .i64 10) z) (nl (wc_ret ?_))))))))))))))))))))))))))
   cases E
   exact (r_thn ⟨.inl z,_,tk0 z ⟨resN z (rv_t rv_nil),z,H.sub0⟩⟩)
 · have E:=iF c2 E
   refine on_ c2 z z (r_faddr e_fa_24_0 z) (on_ c2 z z (r_load e_sc_3 z (blk_cell (H.get 0 z) z)) (on_ c2 z z (r_faddr e_fa_24_1 z) (on_ c2 z z (r_load e_sc_3 z (blk_cell (H.get 0 z) z)) (on_ c2 z z (r_leq z z) (v_ z (pF (.bool (decide (a0.1 ≤ a0.2.1))) z z c2) (v_ z (mv (.bool (decide (a0.1 ≤ a0.2.1))) z) ?_))))))
   rcases Bool.eq_false_or_eq_true (decide (a0.1 ≤ a0.2.1)) with c3 | c3
   · have E:=iT c3 E
     refine off_ c3 z z z (off_ c3 z z z (off_ c3 z z z (v_ z (pT (.bool true) z z c3) (v_ z (mv (.bool true) z) (off_ z z z z (off_ z z z z (off_ z z z z (v_ z (pT (.bool true) z z z) (v_ z (mv (.bool true) z) (off_ z z z z (off_ z z z z (off_ z z z z (v_ z (pT (.bool true) z z z) (nl (wc_condT z (rg (v_ z (sg (.int .i64 10) z) (nl (wc_ret ?_)))))))))))))))))))
     cases E
     exact (r_thn ⟨.inl z,_,tk0 z ⟨resN z (rv_t rv_nil),z,H.sub0⟩⟩)
   · have E:=iF c3 E
     refine on_ c3 z z (r_faddr e_fa_24_0 z) (on_ c3 z z (r_load e_sc_3 z (blk_cell (H.get 0 z) z)) (on_ c3 z z (r_gtr z z) (v_ z (pF (.bool (decide (255 < a0.1))) z z c3) (v_ z (mv (.bool (decide (255 < a0.1))) z) ?_))))
     rcases Bool.eq_false_or_eq_true (decide (255 < a0.1)) with c4 | c4
     · have E:=iT c4 E
       refine off_ c4 z z z (off_ c4 z z z (off_ c4 z z z (v_ z (pT (.bool true) z z c4) (v_ z (mv (.bool true) z) (off_ z z z z (off_ z z z z (off_ z z z z (v_ z (pT (.bool true) z z z) (nl (wc_condT z (rg (v_ z (sg (.int .i64 10) z) (nl (wc_ret ?_))))))))))))))
       cases E
       exact (r_thn ⟨.inl z,_,tk0 z ⟨resN z (rv_t rv_nil),z,H.sub0⟩⟩)
     · have E:=iF c4 E
       refine on_ c4 z z (r_faddr e_fa_24_2 z) (on_ c4 z z (r_load e_sc_3 z (blk_cell (H.get 0 z) z)) (on_ c4 z z (r_lss z z) (v_ z (pF (.bool (decide (a0.2.2 < 0))) z z c4) (v_ z (mv (.bool (decide (a0.2.2 < 0))) z) ?_))))
       rcases Bool.eq_false_or_eq_true (decide (a0.2.2 < 0)) with c5 | c5
       · have E:=iT c5 E
         refine off_ c5 z z z (off_ c5 z z z (off_ c5 z z z (v_ z (pT (.bool true) z z c5) (nl (wc_condT z (rg (v_ z (sg (.int .i64 10) z) (nl (wc_ret ?_)))))))))
         cases E
         exact (r_thn ⟨.inl z,_,tk0 z ⟨resN z (rv_t rv_nil),z,H.sub0⟩⟩)
       · have E:=iF c5 E
         refine on_ c5 z z (r_faddr e_fa_24_2 z) (on_ c5 z z (r_load e_sc_3 z (blk_cell (H.get 0 z) z)) (on_ c5 z z (r_gtr z z) (v_ z (pF (.bool (decide (254 < a0.2.2))) z z c5) (nl ?_))))
         refine wc_cond z (fun c6=>?_) (fun c6=>?_)
         · have E:=iT c6 E
           refine rg (v_ z (sg (.int .i64 10) z) (nl (wc_ret ?_)))
           cases E
           exact (r_thn ⟨.inl z,_,tk0 z ⟨resN z (rv_t rv_nil),z,H.sub0⟩⟩)
         · have E:=iF c6 E
           refine wc_skip (n_thn (rg (v_ z (sg (.int .i64 0) z) (nl (wc_ret ?_)))))
           cases E
           exact ⟨.inl z,_,tk0 z ⟨resN z (rv_t rv_nil),z,H.sub0⟩⟩
def ref10_Space.f (a0 : Int × Int × Int) : Option (Int):=(ref10_Right.f (a0.1,a0.2.1,a0.2.2)).bind fun x2=>bif !decide (x2 = 0) then (some 0) else (some (i64.wrap (a0.1 - a0.2.1)))
theorem ref10_Space.calls {w0 : World} {a0 : Int × Int × Int} {r : Int}  (E : ref10_Space.f a0 = some r) :
   Calls Tryz.prog 12 #[.agg #[.int .i64 a0.1,.int .i64 a0.2.1,.int .i64 a0.2.2]] w0 fun e w'=>e = .returned (.int .i64 r) ∧ St no w0 w' []:=by
 have H:=St.nil no w0
 unfold ref10_Space.f at E
 refine calls_of_wc (N:=11) (args:=[.agg #[.int .i64 a0.1,.int .i64 a0.2.1,.int .i64 a0.2.2]]) Tryz.func12 z z (by simp) ?_
 refine rg (e_ z (y_boxS (cs:=#[.int .i64 a0.1,.int .i64 a0.2.1,.int .i64 a0.2.2]) H z (fun b1 w H=>(v_ z (sg (.int .i64 0) z) (nl (wc_seq (rg (v_ z (r_loadB (l:=[.int .i64 a0.1,.int .i64 a0.2.1,.int .i64 a0.2.2]) e_ag_24 (H.get 0 z) z z z) ?_))))))))
 obtain ⟨x2,E3,E⟩:=bind_some E
 refine e_ z (y_callL l_en_11 z ((ref10_Right.calls E3).mono ?_))
 rintro _ w ⟨rfl,K⟩
 have H:=H.app K
 refine ⟨_,z,(v_ z (r_neq z z) (nl ?_))⟩
 refine wc_cond z (fun c4=>?_) (fun c4=>?_)
 · have E:=iT c4 E
   refine rg (v_ z (sg (.int .i64 0) z) (nl (wc_ret ?_)))
   cases E
   exact (r_thn ⟨.inl z,_,tk0 z ⟨resN z (rv_t rv_nil),z,H.sub0⟩⟩)
 · have E:=iF c4 E
   refine wc_skip (n_thn (rg (v_ z (r_faddr e_fa_24_0 z) (v_ z (r_load e_sc_3 z (blk_cell (H.get 0 z) z)) (v_ z (r_faddr e_fa_24_1 z) (v_ z (r_load e_sc_3 z (blk_cell (H.get 0 z) z)) (v_ z (r_sub z z) (v_ z (sg (.int .i64 (i64.wrap (a0.1 - a0.2.1))) z) (nl (wc_ret ?_))))))))))
   cases E
   exact ⟨.inl z,_,tk0 z ⟨resN z (rv_t rv_nil),z,H.sub0⟩⟩
def ref05_Deg.l0 : Nat → List Int → Int → Option (Int)
 | 0,_,_=>none
 | k + 1,a0,x6=>bif decide (0 ≤ x6) then (grd (decide ((0 : Int) ≤ x6 ∧ x6 < (a0.length : Int))) (bif !decide (at_ 0 a0 x6 = 0) then (some x6) else (ref05_Deg.l0 k a0 (i64.wrap (x6 - 1))))) else (some (-1))
def ref05_Deg.f (k : Nat) (a0 : List Int) : Option (Int):=ref05_Deg.l0 k a0 (i64.wrap ((a0.length : Int) - 1))
theorem ref05_Deg.calls {w0 : World} {k : Nat} {a0 : List Int} {v0_ : Value} {r : Int} (h0 : Rd (.of (.int .u8)) w0 (Ol no w0) v0_ a0) (E : ref05_Deg.f k a0 = some r) :
   Calls Tryz.prog 59 #[v0_] w0 fun e w'=>e = .returned (.int .i64 r) ∧ St no w0 w' []:=by
 have H:=St.nil no w0
 unfold ref05_Deg.f at E
 refine calls_of_wc (N:=17) (args:=[v0_]) Tryz.func59 z z (by simp) ?_
 refine rg (v_ z (sg (.int .i64 0) z) (nl (wc_seq (rg (v_ z (mv v0_ z) (v_ z (r_lenR e_ul_22 (H.rd h0) z) (v_ z (r_sub z z) (v_ z (sg (.int .i64 (i64.wrap ((a0.length : Int) - 1))) z) (nl (wc_block ?_))))))))))
 refine wc_loop (fun kk t w=>∃ (x6 : Int) (t14 : Fr),kk ≤ k ∧ ref05_Deg.l0 kk a0 x6 = some r ∧ t = upds t14 [(0,v0_),(2,.int .i64 0),(3,.int .i64 x6),(1000000,undef)] ∧ St no w0 w []) k ?_ ?_
 · exact ⟨_,_,Nat.le_refl _,E,upds_eq ⟨z,z,z,z,trivial⟩,H⟩
 rintro kk t w ⟨x6,t14,hk13,E,rfl,H⟩
 obtain ⟨k12,rfl⟩ | rfl : (∃ k',kk = k' + 1) ∨ kk = 0:=by cases kk; exact .inr rfl; exact .inl ⟨_,rfl⟩
 rotate_left
 · cases E
 rw [ref05_Deg.l0] at E
 refine wc_seq (rg (v_ z (mv (.int .i64 x6) z) (v_ z (r_geq z z) (nl ?_))))
 refine wc_cond z (fun c16=>?_) (fun c16=>?_)
 · have E:=iT c16 E
   refine wc_skip (n_thn (wc_seq (wc_block (rg (v_ z (mv v0_ z) (v_ z (mv (.int .i64 x6) z) ?_))))))
   obtain ⟨⟨g17,g18⟩,E⟩:=grd_some E
   refine v_ z (r_idx e_sl_22 (H.rd h0) z z g17 g18) (v_ z (r_ldI e_sc_5 (H.rd h0) g17 g18 z) (v_ z (r_neq z z) (nl ?_)))
   refine wc_cond z (fun c19=>?_) (fun c19=>?_)
   · have E:=iT c19 E
     refine rg (v_ z (mv (.int .i64 x6) z) (v_ z (sg (.int .i64 x6) z) (nl (wc_ret ?_))))
     cases E
     exact (r_bk (r_thn (r_thn (r_bk (r_thn ⟨.inl z,_,tk0 z ⟨resN z (rv_t rv_nil),z,H.sub0⟩⟩)))))
   · have E:=iF c19 E
     refine wc_skip (n_bk (n_thn (wc_region (v_ z (mv (.int .i64 x6) z) (v_ z (r_sub z z) (v_ z (sg (.int .i64 (i64.wrap (x6 - 1))) z) (wl_nil ?_)))))))
     exact ⟨k12,Nat.lt_succ_self _,_,_,Nat.le_of_succ_le hk13,E,upds_eq ⟨z,z,z,z,trivial⟩,H⟩
 · have E:=iF c16 E
   refine wc_exit (x_thn (x_thn (x_bk (n_thn (rg (v_ z (sg (.int .i64 (-1)) z) (nl (wc_ret ?_))))))))
   cases E
   exact ⟨.inl z,_,tk0 z ⟨resN z (rv_t rv_nil),z,H.sub0⟩⟩
def ref05_Norm.f (k : Nat) (a0 : List Int) : Option (List Int):=(ref05_Deg.f k a0).bind fun x1=>grd (decide ((0 : Int) ≤ i64.wrap (x1 + 1) ∧ i64.wrap (x1 + 1) ≤ (a0.length : Int))) (grd (decide ((([] : List (Int)).length + ((a0.take ((i64.wrap (x1 + 1)).toNat)).drop 0).length) * 1 ≤ 140737488355328)) (some (([] : List (Int)) ++ ((a0.take ((i64.wrap (x1 + 1)).toNat)).drop 0))))
theorem ref05_Norm.calls {w0 : World} {k : Nat} {a0 : List Int} {v0_ : Value} {r : List Int} (h0 : Rd (.of (.int .u8)) w0 (Ol no w0) v0_ a0) (E : ref05_Norm.f k a0 = some r) :
   Calls Tryz.prog 34 #[v0_] w0 fun e w'=>∃ (u0 : Value),e = .returned (u0) ∧ St no w0 w' [.own (.int .u8) 5 u0 r]:=by
 have H:=St.nil no w0
 unfold ref05_Norm.f at E
 refine calls_of_wc (N:=11) (args:=[v0_]) Tryz.func34 z z (by simp) ?_
 refine rg (v_ z (sg (.slice none 0 0) z) (nl (rg (v_ z (sg (.slice none 0 0) z) (nl (rg (v_ z (mv (.slice none 0 0) z) (v_ z (mv v0_ z) (v_ z (mv v0_ z) ?_)))))))))
 obtain ⟨x1,E2,E⟩:=bind_some E
 refine e_ z (y_callL l_en_59 z ((ref05_Deg.calls (H.arg (H.rd h0)) E2).mono ?_))
 rintro _ w ⟨rfl,K⟩
 have H:=H.app K
 refine ⟨_,z,(v_ z (r_add z z) ?_)⟩
 obtain ⟨⟨g3,g4⟩,E⟩:=grd_some E
 have p6 : 0 ≤ (i64.wrap (x1 + 1)).toNat:=by omega
 have p7 : (i64.wrap (x1 + 1)).toNat ≤ a0.length:=by omega
 refine v_ z (r_slcHR e_sl_22 (H.rd h0) z z g3 g4) ?_
 have H:=H.nilOwn (.int .u8) 5
 obtain ⟨g9,E⟩:=grd_some E
 refine e_ z (y_app e_sl_22 H 0 z (Rd.slv (H.rd h0) p6 p7) z z (by omega) (by unfold maxLen; omega) (fun v8 w H=>(v_ z (sg v8 z) (nl (wc_ret ?_)))))
 cases E
 exact ⟨.inl z,_,tk0 z ⟨resN z (rv_t rv_nil),_,z,H.sub1 0 z⟩⟩
def ref05_Up.f (k : Nat) (a0 : List Int) (a1 : Int) : Option (List Int):=grd (decide ((0 : Int) ≤ a1 ∧ a1 ≤ a1 ∧ a1 ≤ 140737488355328)) (grd (decide (((List.replicate a1.toNat (0 : Int)).length + a0.length) * 1 ≤ 140737488355328)) ((ref05_Norm.f k ((List.replicate a1.toNat (0 : Int)) ++ a0)).bind fun x7=>some x7))
theorem ref05_Up.calls {w0 : World} {k : Nat} {a0 : List Int} {a1 : Int} {v0_ : Value} {r : List Int} (h0 : Rd (.of (.int .u8)) w0 (Ol no w0) v0_ a0) (E : ref05_Up.f k a0 a1 = some r) :
   Calls Tryz.prog 14 #[v0_,.int .i64 a1] w0 fun e w'=>∃ (u0 : Value),e = .returned (u0) ∧ St no w0 w' [.own (.int .u8) 5 u0 r]:=by
 have H:=St.nil no w0
 unfold ref05_Up.f at E
 refine calls_of_wc (N:=13) (args:=[v0_,.int .i64 a1]) Tryz.func14 z z (by simp) ?_
 refine rg (v_ z (sg (.slice none 0 0) z) (nl (rg (v_ z (mv (.int .i64 a1) z) ?_))))
 obtain ⟨⟨g2,g3,g4⟩,E⟩:=grd_some E
 refine e_ z (y_make (e:=(.int .u8)) (z0:=0) e_sl_22 z H z z g2 g3 (by omega) (by omega) (fun v1 w H=>(v_ z (sg v1 z) (nl (rg (v_ z (mv v1 z) (v_ z (mv v0_ z) ?_)))))))
 obtain ⟨g6,E⟩:=grd_some E
 refine e_ z (y_app e_sl_22 H 0 z (H.rd h0) z z (by omega) (by unfold maxLen; omega) (fun v5 w H=>(v_ z (sg v5 z) (nl (rg (v_ z (mv v5 z) ?_))))))
 obtain ⟨x7,E8,E⟩:=bind_some E
 refine e_ z (y_callL l_en_34 z ((ref05_Norm.calls (H.own 0 z (own_rd (H.get 0 z))) E8).mono ?_))
 rintro _ w ⟨v9,rfl,K⟩
 have H:=H.app K
 refine ⟨_,z,(v_ z (sg v9 z) (nl (wc_ret ?_)))⟩
 cases E
 exact ⟨.inl z,_,tk0 z ⟨resN z (rv_t rv_nil),_,z,H.sub1 1 z⟩⟩
def ref05_Coef.f (a0 : List Int) (a1 : Int) : Option (Int):=bif decide (a1 < 0) then (some 0) else (bif decide ((a0.length : Int) ≤ a1) then (some 0) else (grd (decide ((0 : Int) ≤ a1 ∧ a1 < (a0.length : Int))) (some (at_ 0 a0 a1))))
theorem ref05_Coef.calls {w0 : World} {a0 : List Int} {a1 : Int} {v0_ : Value} {r : Int} (h0 : Rd (.of (.int .u8)) w0 (Ol no w0) v0_ a0) (E : ref05_Coef.f a0 a1 = some r) :
   Calls Tryz.prog 16 #[v0_,.int .i64 a1] w0 fun e w'=>e = .returned (.int .u8 r) ∧ St no w0 w' []:=by
 have H:=St.nil no w0
 unfold ref05_Coef.f at E
 refine calls_of_wc (N:=17) (args:=[v0_,.int .i64 a1]) Tryz.func16 z z (by simp) ?_
 refine rg (v_ z (sg (.int .u8 0) z) (nl (wc_seq (rg (v_ z (mv (.int .i64 a1) z) (v_ z (r_lss z z) (v_ z (mv (.bool (decide (a1 < 0))) z) ?_)))))))
 rcases Bool.eq_false_or_eq_true (decide (a1 < 0)) with c1 | c1
 · have E:=iT c1 E
   refine off_ c1 z z z (off_ c1 z z z (off_ c1 z z z (off_ c1 z z z (v_ z (pT (.bool true) z z c1) (nl (wc_condT z (rg (v_ z (sg (.int .u8 0) z) (nl (wc_ret ?_))))))))))
   cases E
   exact (r_thn ⟨.inl z,_,tk0 z ⟨resN z (rv_t rv_nil),z,H.sub0⟩⟩)
 · have E:=iF c1 E
   refine on_ c1 z z (mv (.int .i64 a1) z) (on_ c1 z z (mv v0_ z) (on_ c1 z z (r_lenR e_ul_22 (H.rd h0) z) (on_ c1 z z (r_geq z z) (v_ z (pF (.bool (decide ((a0.length : Int) ≤ a1))) z z c1) (nl ?_)))))
   refine wc_cond z (fun c2=>?_) (fun c2=>?_)
   · have E:=iT c2 E
     refine rg (v_ z (sg (.int .u8 0) z) (nl (wc_ret ?_)))
     cases E
     exact (r_thn ⟨.inl z,_,tk0 z ⟨resN z (rv_t rv_nil),z,H.sub0⟩⟩)
   · have E:=iF c2 E
     refine wc_skip (n_thn (rg (v_ z (mv v0_ z) (v_ z (mv (.int .i64 a1) z) ?_))))
     obtain ⟨⟨g3,g4⟩,E⟩:=grd_some E
     refine v_ z (r_idx e_sl_22 (H.rd h0) z z g3 g4) (v_ z (r_ldI e_sc_5 (H.rd h0) g3 g4 z) (v_ z (sg (.int .u8 (at_ 0 a0 a1)) z) (nl (wc_ret ?_))))
     cases E
     exact ⟨.inl z,_,tk0 z ⟨resN z (rv_t rv_nil),z,H.sub0⟩⟩
def ref01_Reduce.l0 : Nat → Int → Int → Option (Int)
 | 0,_,_=>none
 | k + 1,x4,x5=>bif decide (8 ≤ x5) then (grd (decide (0 ≤ u64.wrap x5)) (bif decide (Int.tmod (Int.fdiv x4 (2 ^ (min (u64.wrap x5).toNat 16))) 2 = 1) then (grd (decide (0 ≤ u64.wrap (i64.wrap (x5 - 8)))) (ref01_Reduce.l0 k (bits .xor .u16 x4 (u16.wrap (285 * 2 ^ (min (u64.wrap (i64.wrap (x5 - 8))).toNat 16)))) (i64.wrap (x5 - 1)))) else (ref01_Reduce.l0 k x4 (i64.wrap (x5 - 1))))) else (some (u8.wrap x4))
def ref01_Reduce.f (k : Nat) (a0 : Int) : Option (Int):=ref01_Reduce.l0 k a0 15
theorem ref01_Reduce.calls {w0 : World} {k : Nat} {a0 : Int} {r : Int}  (E : ref01_Reduce.f k a0 = some r) :
   Calls Tryz.prog 162 #[.int .u16 a0] w0 fun e w'=>e = .returned (.int .u8 r) ∧ St no w0 w' []:=by
 have H:=St.nil no w0
 unfold ref01_Reduce.f at E
 refine calls_of_wc (N:=22) (args:=[.int .u16 a0]) Tryz.func162 z z (by simp) ?_
 refine rg (v_ z (sg (.int .u8 0) z) (nl (wc_seq (rg (v_ z (sg (.int .i64 15) z) (nl (wc_block ?_)))))))
 refine wc_loop (fun kk t w=>∃ (x4 : Int) (x5 : Int) (t13 : Fr),kk ≤ k ∧ ref01_Reduce.l0 kk x4 x5 = some r ∧ t = upds t13 [(0,.int .u16 x4),(2,.int .u8 0),(3,.int .i64 x5),(1000000,undef)] ∧ St no w0 w []) k ?_ ?_
 · exact ⟨_,_,_,Nat.le_refl _,E,upds_eq ⟨z,z,z,z,trivial⟩,H⟩
 rintro kk t w ⟨x4,x5,t13,hk12,E,rfl,H⟩
 obtain ⟨k11,rfl⟩ | rfl : (∃ k',kk = k' + 1) ∨ kk = 0:=by cases kk; exact .inr rfl; exact .inl ⟨_,rfl⟩
 rotate_left
 · cases E
 rw [ref01_Reduce.l0] at E
 refine wc_seq (rg (v_ z (mv (.int .i64 x5) z) (v_ z (r_geq z z) (nl ?_))))
 refine wc_cond z (fun c15=>?_) (fun c15=>?_)
 · have E:=iT c15 E
   refine wc_skip (n_thn (wc_seq (wc_block (rg (v_ z (mv (.int .u16 x4) z) (v_ z (mv (.int .i64 x5) z) (v_ z (r_conv z Tryz.underlying3 Tryz.underlying130) ?_)))))))
   obtain ⟨g16,E⟩:=grd_some E
   refine v_ z (r_shr z z g16) (v_ z (r_rem z z (by decide)) (v_ z (r_eql z z) (nl ?_)))
   refine wc_cond z (fun c17=>?_) (fun c17=>?_)
   · have E:=iT c17 E
     refine wc_region (v_ z (mv (.int .u16 x4) z) (v_ z (mv (.int .i64 x5) z) (v_ z (r_sub z z) (v_ z (r_conv z Tryz.underlying3 Tryz.underlying130) ?_))))
     obtain ⟨g18,E⟩:=grd_some E
     refine v_ z (r_shl z z g18) (v_ z (r_xor z z) (v_ z (sg (.int .u16 (bits .xor .u16 x4 (u16.wrap (285 * 2 ^ (min (u64.wrap (i64.wrap (x5 - 8))).toNat 16))))) z) (wl_nil (n_bk (n_thn (wc_region (v_ z (mv (.int .i64 x5) z) (v_ z (r_sub z z) (v_ z (sg (.int .i64 (i64.wrap (x5 - 1))) z) (wl_nil ?_))))))))))
     exact ⟨k11,Nat.lt_succ_self _,_,_,_,Nat.le_of_succ_le hk12,E,upds_eq ⟨z,z,z,z,trivial⟩,H⟩
   · have E:=iF c17 E
     refine wc_skip (n_bk (n_thn (wc_region (v_ z (mv (.int .i64 x5) z) (v_ z (r_sub z z) (v_ z (sg (.int .i64 (i64.wrap (x5 - 1))) z) (wl_nil ?_)))))))
     exact ⟨k11,Nat.lt_succ_self _,_,_,_,Nat.le_of_succ_le hk12,E,upds_eq ⟨z,z,z,z,trivial⟩,H⟩
 · have E:=iF c15 E
   refine wc_exit (x_thn (x_thn (x_bk (n_thn (rg (v_ z (mv (.int .u16 x4) z) (v_ z (r_conv z Tryz.underlying92 Tryz.underlying5) (v_ z (sg (.int .u8 (u8.wrap x4)) z) (nl (wc_ret ?_))))))))))
   cases E
   exact ⟨.inl z,_,tk0 z ⟨resN z (rv_t rv_nil),z,H.sub0⟩⟩
def ref01_Wide.l0 : Nat → Int → Int → Int → Int → Option (Int)
 | 0,_,_,_,_=>none
 | k + 1,a0,a1,x4,x5=>bif decide (x5 < 8) then (grd (decide (0 ≤ u64.wrap x5)) (bif decide (Int.tmod (Int.fdiv a1 (2 ^ (min (u64.wrap x5).toNat 8))) 2 = 1) then (grd (decide (0 ≤ u64.wrap x5)) (ref01_Wide.l0 k a0 a1 (bits .xor .u16 x4 (u16.wrap ((u16.wrap a0) * 2 ^ (min (u64.wrap x5).toNat 16)))) (i64.wrap (x5 + 1)))) else (ref01_Wide.l0 k a0 a1 x4 (i64.wrap (x5 + 1))))) else (some x4)
def ref01_Wide.f (k : Nat) (a0 : Int) (a1 : Int) : Option (Int):=ref01_Wide.l0 k a0 a1 0 0
theorem ref01_Wide.calls {w0 : World} {k : Nat} {a0 : Int} {a1 : Int} {r : Int}  (E : ref01_Wide.f k a0 a1 = some r) :
   Calls Tryz.prog 163 #[.int .u8 a0,.int .u8 a1] w0 fun e w'=>e = .returned (.int .u16 r) ∧ St no w0 w' []:=by
 have H:=St.nil no w0
 unfold ref01_Wide.f at E
 refine calls_of_wc (N:=25) (args:=[.int .u8 a0,.int .u8 a1]) Tryz.func163 z z (by simp) ?_
 refine rg (v_ z (sg (.int .u16 0) z) (nl (rg (v_ z (sg (.int .u16 0) z) (nl (wc_seq (rg (v_ z (sg (.int .i64 0) z) (nl (wc_block ?_))))))))))
 refine wc_loop (fun kk t w=>∃ (x4 : Int) (x5 : Int) (t13 : Fr),kk ≤ k ∧ ref01_Wide.l0 kk a0 a1 x4 x5 = some r ∧ t = upds t13 [(0,.int .u8 a0),(1,.int .u8 a1),(4,.int .u16 0),(5,.int .u16 x4),(6,.int .i64 x5),(1000000,undef)] ∧ St no w0 w []) k ?_ ?_
 · exact ⟨_,_,_,Nat.le_refl _,E,upds_eq ⟨z,z,z,z,z,z,trivial⟩,H⟩
 rintro kk t w ⟨x4,x5,t13,hk12,E,rfl,H⟩
 obtain ⟨k11,rfl⟩ | rfl : (∃ k',kk = k' + 1) ∨ kk = 0:=by cases kk; exact .inr rfl; exact .inl ⟨_,rfl⟩
 rotate_left
 · cases E
 rw [ref01_Wide.l0] at E
 refine wc_seq (rg (v_ z (mv (.int .i64 x5) z) (v_ z (r_lss z z) (nl ?_))))
 refine wc_cond z (fun c15=>?_) (fun c15=>?_)
 · have E:=iT c15 E
   refine wc_skip (n_thn (wc_seq (wc_block (rg (v_ z (mv (.int .u8 a1) z) (v_ z (mv (.int .i64 x5) z) (v_ z (r_conv z Tryz.underlying3 Tryz.underlying130) ?_)))))))
   obtain ⟨g16,E⟩:=grd_some E
   refine v_ z (r_shr z z g16) (v_ z (r_rem z z (by decide)) (v_ z (r_eql z z) (nl ?_)))
   refine wc_cond z (fun c17=>?_) (fun c17=>?_)
   · have E:=iT c17 E
     refine wc_region (v_ z (mv (.int .u16 x4) z) (v_ z (mv (.int .u8 a0) z) (v_ z (r_conv z Tryz.underlying5 Tryz.underlying92) (v_ z (mv (.int .i64 x5) z) (v_ z (r_conv z Tryz.underlying3 Tryz.underlying130) ?_)))))
     obtain ⟨g18,E⟩:=grd_some E
     refine v_ z (r_shl z z g18) (v_ z (r_xor z z) (v_ z (sg (.int .u16 (bits .xor .u16 x4 (u16.wrap ((u16.wrap a0) * 2 ^ (min (u64.wrap x5).toNat 16))))) z) (wl_nil (n_bk (n_thn (wc_region (v_ z (mv (.int .i64 x5) z) (v_ z (r_add z z) (v_ z (sg (.int .i64 (i64.wrap (x5 + 1))) z) (wl_nil ?_))))))))))
     exact ⟨k11,Nat.lt_succ_self _,_,_,_,Nat.le_of_succ_le hk12,E,upds_eq ⟨z,z,z,z,z,z,trivial⟩,H⟩
   · have E:=iF c17 E
     refine wc_skip (n_bk (n_thn (wc_region (v_ z (mv (.int .i64 x5) z) (v_ z (r_add z z) (v_ z (sg (.int .i64 (i64.wrap (x5 + 1))) z) (wl_nil ?_)))))))
     exact ⟨k11,Nat.lt_succ_self _,_,_,_,Nat.le_of_succ_le hk12,E,upds_eq ⟨z,z,z,z,z,z,trivial⟩,H⟩
 · have E:=iF c15 E
   refine wc_exit (x_thn (x_thn (x_bk (n_thn (rg (v_ z (mv (.int .u16 x4) z) (v_ z (sg (.int .u16 x4) z) (nl (wc_ret ?_)))))))))
   cases E
   exact ⟨.inl z,_,tk0 z ⟨resN z (rv_t rv_nil),z,H.sub0⟩⟩
def ref01_Mul.f (k : Nat) (a0 : Int) (a1 : Int) : Option (Int):=(ref01_Wide.f k a0 a1).bind fun x1=>(ref01_Reduce.f k x1).bind fun x3=>some x3
theorem ref01_Mul.calls {w0 : World} {k : Nat} {a0 : Int} {a1 : Int} {r : Int}  (E : ref01_Mul.f k a0 a1 = some r) :
   Calls Tryz.prog 99 #[.int .u8 a0,.int .u8 a1] w0 fun e w'=>e = .returned (.int .u8 r) ∧ St no w0 w' []:=by
 have H:=St.nil no w0
 unfold ref01_Mul.f at E
 refine calls_of_wc (N:=9) (args:=[.int .u8 a0,.int .u8 a1]) Tryz.func99 z z (by simp) ?_
 refine rg (v_ z (sg (.int .u8 0) z) (nl (rg (v_ z (mv (.int .u8 a0) z) (v_ z (mv (.int .u8 a1) z) ?_)))))
 obtain ⟨x1,E2,E⟩:=bind_some E
 refine e_ z (y_callL l_en_163 z ((ref01_Wide.calls E2).mono ?_))
 rintro _ w ⟨rfl,K⟩
 have H:=H.app K
 refine ⟨_,z,?_⟩
 obtain ⟨x3,E4,E⟩:=bind_some E
 refine e_ z (y_callL l_en_162 z ((ref01_Reduce.calls E4).mono ?_))
 rintro _ w ⟨rfl,K⟩
 have H:=H.app K
 refine ⟨_,z,(v_ z (sg (.int .u8 x3) z) (nl (wc_ret ?_)))⟩
 cases E
 exact ⟨.inl z,_,tk0 z ⟨resN z (rv_t rv_nil),z,H.sub0⟩⟩
def ref01_Inv.l0 : Nat → Int → Int → Option (Int × Bool)
 | 0,_,_=>none
 | k + 1,a0,x4=>bif decide (x4 < 256) then ((ref01_Mul.f k a0 (u8.wrap x4)).bind fun x15=>bif decide (x15 = 1) then (some (u8.wrap x4,true)) else (ref01_Inv.l0 k a0 (i64.wrap (x4 + 1)))) else (some (0,false))
def ref01_Inv.f (k : Nat) (a0 : Int) : Option (Int × Bool):=ref01_Inv.l0 k a0 0
theorem ref01_Inv.calls {w0 : World} {k : Nat} {a0 : Int} {r : Int × Bool}  (E : ref01_Inv.f k a0 = some r) :
   Calls Tryz.prog 98 #[.int .u8 a0] w0 fun e w'=>e = .returned (.tuple #[.int .u8 r.1,.bool r.2]) ∧ St no w0 w' []:=by
 have H:=St.nil no w0
 unfold ref01_Inv.f at E
 refine calls_of_wc (N:=16) (args:=[.int .u8 a0]) Tryz.func98 z z (by simp) ?_
 refine rg (v_ z (sg (.int .u8 0) z) (v_ z (sg (.bool false) z) (nl (wc_seq (rg (v_ z (sg (.int .i64 0) z) (nl (wc_block ?_))))))))
 refine wc_loop (fun kk t w=>∃ (x4 : Int) (t12 : Fr),kk ≤ k ∧ ref01_Inv.l0 kk a0 x4 = some r ∧ t = upds t12 [(0,.int .u8 a0),(2,.int .u8 0),(3,.bool false),(4,.int .i64 x4),(1000000,undef)] ∧ St no w0 w []) k ?_ ?_
 · exact ⟨_,_,Nat.le_refl _,E,upds_eq ⟨z,z,z,z,z,trivial⟩,H⟩
 rintro kk t w ⟨x4,t12,hk11,E,rfl,H⟩
 obtain ⟨k10,rfl⟩ | rfl : (∃ k',kk = k' + 1) ∨ kk = 0:=by cases kk; exact .inr rfl; exact .inl ⟨_,rfl⟩
 rotate_left
 · cases E
 rw [ref01_Inv.l0] at E
 refine wc_seq (rg (v_ z (mv (.int .i64 x4) z) (v_ z (r_lss z z) (nl ?_))))
 refine wc_cond z (fun c14=>?_) (fun c14=>?_)
 · have E:=iT c14 E
   refine wc_skip (n_thn (wc_seq (wc_block (rg (v_ z (mv (.int .u8 a0) z) (v_ z (mv (.int .i64 x4) z) (v_ z (r_conv z Tryz.underlying3 Tryz.underlying5) ?_)))))))
   obtain ⟨x15,E16,E⟩:=bind_some E
   refine e_ z (y_callL l_en_99 z ((ref01_Mul.calls E16).mono ?_))
   rintro _ w ⟨rfl,K⟩
   have H:=H.app K
   refine ⟨_,z,(v_ z (r_eql z z) (nl ?_))⟩
   refine wc_cond z (fun c17=>?_) (fun c17=>?_)
   · have E:=iT c17 E
     refine rg (v_ z (mv (.int .i64 x4) z) (v_ z (r_conv z Tryz.underlying3 Tryz.underlying5) (v_ z (sg (.int .u8 (u8.wrap x4)) z) (v_ z (sg (.bool true) z) (nl (wc_ret ?_))))))
     cases E
     exact (r_bk (r_thn (r_thn (r_bk (r_thn ⟨.inl z,_,tk0 z ⟨resN z (rv_t (rv_t rv_nil)),z,H.sub0⟩⟩)))))
   · have E:=iF c17 E
     refine wc_skip (n_bk (n_thn (wc_region (v_ z (mv (.int .i64 x4) z) (v_ z (r_add z z) (v_ z (sg (.int .i64 (i64.wrap (x4 + 1))) z) (wl_nil ?_)))))))
     exact ⟨k10,Nat.lt_succ_self _,_,_,Nat.le_of_succ_le hk11,E,upds_eq ⟨z,z,z,z,z,trivial⟩,H⟩
 · have E:=iF c14 E
   refine wc_exit (x_thn (x_thn (x_bk (n_thn (rg (v_ z (sg (.int .u8 0) z) (v_ z (sg (.bool false) z) (nl (wc_ret ?_)))))))))
   cases E
   exact ⟨.inl z,_,tk0 z ⟨resN z (rv_t (rv_t rv_nil)),z,H.sub0⟩⟩
def ref01_Div.f (k : Nat) (a0 : Int) (a1 : Int) : Option (Int):=(ref01_Inv.f k a1).bind fun x1=>(ref01_Mul.f k a0 x1.1).bind fun x3=>some x3
theorem ref01_Div.calls {w0 : World} {k : Nat} {a0 : Int} {a1 : Int} {r : Int}  (E : ref01_Div.f k a0 a1 = some r) :
   Calls Tryz.prog 60 #[.int .u8 a0,.int .u8 a1] w0 fun e w'=>e = .returned (.int .u8 r) ∧ St no w0 w' []:=by
 have H:=St.nil no w0
 unfold ref01_Div.f at E
 refine calls_of_wc (N:=15) (args:=[.int .u8 a0,.int .u8 a1]) Tryz.func60 z z (by simp) ?_
 refine rg (v_ z (sg (.int .u8 0) z) (nl (rg (v_ z (mv (.int .u8 a1) z) ?_))))
 obtain ⟨x1,E2,E⟩:=bind_some E
 refine e_ z (y_callL l_en_98 z ((ref01_Inv.calls E2).mono ?_))
 rintro _ w ⟨rfl,K⟩
 have H:=H.app K
 refine ⟨_,z,(v_ z (r_move) (v_ z (r_extract z z) (v_ z (r_extract z z) (v_ z (sg (.int .u8 x1.1) z) (v_ z (sg (.bool x1.2) z) (nl (rg (v_ z (mv (.int .u8 a0) z) (v_ z (mv (.int .u8 x1.1) z) ?_)))))))))⟩
 obtain ⟨x3,E4,E⟩:=bind_some E
 refine e_ z (y_callL l_en_99 z ((ref01_Mul.calls E4).mono ?_))
 rintro _ w ⟨rfl,K⟩
 have H:=H.app K
 refine ⟨_,z,(v_ z (sg (.int .u8 x3) z) (nl (wc_ret ?_)))⟩
 cases E
 exact ⟨.inl z,_,tk0 z ⟨resN z (rv_t rv_nil),z,H.sub0⟩⟩
def ref05_Add.l0 : Nat → List Int → List Int → List (Int) → Int → Option (List Int)
 | 0,_,_,_,_=>none
 | k + 1,a0,a1,l20,x21=>bif decide (x21 < max2 (a0.length : Int) (a1.length : Int)) then ((ref05_Coef.f a0 x21).bind fun x36=>(ref05_Coef.f a1 x21).bind fun x38=>grd (decide ((l20.length + ([bits .xor .u8 x36 x38]).length) * 1 ≤ 140737488355328)) (ref05_Add.l0 k a0 a1 (l20 ++ ([bits .xor .u8 x36 x38])) (i64.wrap (x21 + 1)))) else ((ref05_Norm.f k l20).bind fun x43=>some x43)
def ref05_Add.f (k : Nat) (a0 : List Int) (a1 : List Int) : Option (List Int):=ref05_Add.l0 k a0 a1 ([] : List (Int)) 0
theorem ref05_Add.calls {w0 : World} {k : Nat} {a0 : List Int} {a1 : List Int} {v0_ : Value} {v1_ : Value} {r : List Int} (h0 : Rd (.of (.int .u8)) w0 (Ol no w0) v0_ a0) (h1 : Rd (.of (.int .u8)) w0 (Ol no w0) v1_ a1) (E : ref05_Add.f k a0 a1 = some r) :
   Calls Tryz.prog 61 #[v0_,v1_] w0 fun e w'=>∃ (u0 : Value),e = .returned (u0) ∧ St no w0 w' [.own (.int .u8) 5 u0 r]:=by
 have H:=St.nil no w0
 unfold ref05_Add.f at E
 refine calls_of_wc (N:=28) (args:=[v0_,v1_]) Tryz.func61 z z (by simp) ?_
 refine rg (v_ z (sg (.slice none 0 0) z) (nl (rg (v_ z (sg (.slice none 0 0) z) (nl (wc_seq (rg (v_ z (sg (.int .i64 0) z) (nl (wc_block ?_))))))))))
 have H:=H.nilOwn (.int .u8) 5
 refine wc_loop (fun kk t w=>∃ (l20 : List (Int)) (x21 : Int) (v19 : Value) (t33 : Fr),kk ≤ k ∧ ref05_Add.l0 kk a0 a1 l20 x21 = some r ∧ t = upds t33 [(0,v0_),(1,v1_),(4,.slice none 0 0),(5,v19),(6,.int .i64 x21),(1000000,undef)] ∧ St no w0 w [.own (.int .u8) 5 v19 l20]) k ?_ ?_
 · exact ⟨_,_,_,_,Nat.le_refl _,E,upds_eq ⟨z,z,z,z,z,z,trivial⟩,H⟩
 rintro kk t w ⟨l20,x21,v19,t33,hk32,E,rfl,H⟩
 obtain ⟨k31,rfl⟩ | rfl : (∃ k',kk = k' + 1) ∨ kk = 0:=by cases kk; exact .inr rfl; exact .inl ⟨_,rfl⟩
 rotate_left
 · cases E
 rw [ref05_Add.l0] at E
 refine wc_seq (rg (v_ z (mv (.int .i64 x21) z) (v_ z (mv v0_ z) (v_ z (r_lenR e_ul_22 (H.rd h0) z) (v_ z (mv v1_ z) (v_ z (r_lenR e_ul_22 (H.rd h1) z) (v_ z (r_max z z) (v_ z (r_lss z z) (nl ?_)))))))))
 refine wc_cond z (fun c35=>?_) (fun c35=>?_)
 · have E:=iT c35 E
   refine wc_skip (n_thn (wc_seq (wc_block (wc_region (v_ z (mv v19 z) (v_ z (mv v0_ z) (v_ z (mv (.int .i64 x21) z) ?_)))))))
   obtain ⟨x36,E37,E⟩:=bind_some E
   refine e_ z (y_callL l_en_16 z ((ref05_Coef.calls (H.arg (H.rd h0)) E37).mono ?_))
   rintro _ w ⟨rfl,K⟩
   have H:=H.app K
   refine ⟨_,z,(v_ z (mv v1_ z) (v_ z (mv (.int .i64 x21) z) ?_))⟩
   obtain ⟨x38,E39,E⟩:=bind_some E
   refine e_ z (y_callL l_en_16 z ((ref05_Coef.calls (H.arg (H.rd h1)) E39).mono ?_))
   rintro _ w ⟨rfl,K⟩
   have H:=H.app K
   refine ⟨_,z,(v_ z (r_xor z z) (e_ z (y_bsL (e:=(.int .u8)) (l:=[bits .xor .u8 x36 x38]) e_sl_22 H z (by decide) ⟨z,z,trivial⟩ (by decide) (fun v40 w H=>?_))))⟩
   obtain ⟨g42,E⟩:=grd_some E
   refine e_ z (y_app e_sl_22 H 0 z (own_rd (H.get 1 z)) z z (by omega) (by unfold maxLen; omega) (fun v41 w H=>(v_ z (sg v41 z) (wl_nil (n_bk (n_thn (wc_region (v_ z (mv (.int .i64 x21) z) (v_ z (r_add z z) (v_ z (sg (.int .i64 (i64.wrap (x21 + 1))) z) (wl_nil ?_)))))))))))
   exact ⟨k31,Nat.lt_succ_self _,_,_,_,_,Nat.le_of_succ_le hk32,E,upds_eq ⟨z,z,z,z,z,z,trivial⟩,H.sel [0] z z⟩
 · have E:=iF c35 E
   refine wc_exit (x_thn (x_thn (x_bk (n_thn (rg (v_ z (mv v19 z) ?_))))))
   obtain ⟨x43,E44,E⟩:=bind_some E
   refine e_ z (y_callL l_en_34 z ((ref05_Norm.calls (H.own 0 z (own_rd (H.get 0 z))) E44).mono ?_))
   rintro _ w ⟨v45,rfl,K⟩
   have H:=H.app K
   refine ⟨_,z,(v_ z (sg v45 z) (nl (wc_ret ?_)))⟩
   cases E
   exact ⟨.inl z,_,tk0 z ⟨resN z (rv_t rv_nil),_,z,H.sub1 1 z⟩⟩
def ref05_Scale.l0 : Nat → Int → List Int → List (Int) → Int → Option (List Int)
 | 0,_,_,_,_=>none
 | k + 1,a0,a1,l20,x21=>bif decide (x21 < (a1.length : Int)) then (grd (decide ((0 : Int) ≤ x21 ∧ x21 < (a1.length : Int))) ((ref01_Mul.f k a0 (at_ 0 a1 x21)).bind fun x38=>grd (decide ((l20.length + ([x38]).length) * 1 ≤ 140737488355328)) (ref05_Scale.l0 k a0 a1 (l20 ++ ([x38])) (i64.wrap (x21 + 1))))) else ((ref05_Norm.f k l20).bind fun x43=>some x43)
def ref05_Scale.f (k : Nat) (a0 : Int) (a1 : List Int) : Option (List Int):=ref05_Scale.l0 k a0 a1 ([] : List (Int)) 0
theorem ref05_Scale.calls {w0 : World} {k : Nat} {a0 : Int} {a1 : List Int} {v1_ : Value} {r : List Int} (h1 : Rd (.of (.int .u8)) w0 (Ol no w0) v1_ a1) (E : ref05_Scale.f k a0 a1 = some r) :
   Calls Tryz.prog 62 #[.int .u8 a0,v1_] w0 fun e w'=>∃ (u0 : Value),e = .returned (u0) ∧ St no w0 w' [.own (.int .u8) 5 u0 r]:=by
 have H:=St.nil no w0
 unfold ref05_Scale.f at E
 refine calls_of_wc (N:=24) (args:=[.int .u8 a0,v1_]) Tryz.func62 z z (by simp) ?_
 refine rg (v_ z (sg (.slice none 0 0) z) (nl (rg (v_ z (sg (.slice none 0 0) z) (nl (wc_seq (rg (v_ z (sg (.int .i64 0) z) (nl (wc_block ?_))))))))))
 have H:=H.nilOwn (.int .u8) 5
 refine wc_loop (fun kk t w=>∃ (l20 : List (Int)) (x21 : Int) (v19 : Value) (t33 : Fr),kk ≤ k ∧ ref05_Scale.l0 kk a0 a1 l20 x21 = some r ∧ t = upds t33 [(0,.int .u8 a0),(1,v1_),(4,.slice none 0 0),(5,v19),(6,.int .i64 x21),(1000000,undef)] ∧ St no w0 w [.own (.int .u8) 5 v19 l20]) k ?_ ?_
 · exact ⟨_,_,_,_,Nat.le_refl _,E,upds_eq ⟨z,z,z,z,z,z,trivial⟩,H⟩
 rintro kk t w ⟨l20,x21,v19,t33,hk32,E,rfl,H⟩
 obtain ⟨k31,rfl⟩ | rfl : (∃ k',kk = k' + 1) ∨ kk = 0:=by cases kk; exact .inr rfl; exact .inl ⟨_,rfl⟩
 rotate_left
 · cases E
 rw [ref05_Scale.l0] at E
 refine wc_seq (rg (v_ z (mv (.int .i64 x21) z) (v_ z (mv v1_ z) (v_ z (r_lenR e_ul_22 (H.rd h1) z) (v_ z (r_lss z z) (nl ?_))))))
 refine wc_cond z (fun c35=>?_) (fun c35=>?_)
 · have E:=iT c35 E
   refine wc_skip (n_thn (wc_seq (wc_block (wc_region (v_ z (mv v19 z) (v_ z (mv (.int .u8 a0) z) (v_ z (mv v1_ z) (v_ z (mv (.int .i64 x21) z) ?_))))))))
   obtain ⟨⟨g36,g37⟩,E⟩:=grd_some E
   refine v_ z (r_idx e_sl_22 (H.rd h1) z z g36 g37) (v_ z (r_ldI e_sc_5 (H.rd h1) g36 g37 z) ?_)
   obtain ⟨x38,E39,E⟩:=bind_some E
   refine e_ z (y_callL l_en_99 z ((ref01_Mul.calls E39).mono ?_))
   rintro _ w ⟨rfl,K⟩
   have H:=H.app K
   refine ⟨_,z,(e_ z (y_bsL (e:=(.int .u8)) (l:=[x38]) e_sl_22 H z (by decide) ⟨z,z,trivial⟩ (by decide) (fun v40 w H=>?_)))⟩
   obtain ⟨g42,E⟩:=grd_some E
   refine e_ z (y_app e_sl_22 H 0 z (own_rd (H.get 1 z)) z z (by omega) (by unfold maxLen; omega) (fun v41 w H=>(v_ z (sg v41 z) (wl_nil (n_bk (n_thn (wc_region (v_ z (mv (.int .i64 x21) z) (v_ z (r_add z z) (v_ z (sg (.int .i64 (i64.wrap (x21 + 1))) z) (wl_nil ?_)))))))))))
   exact ⟨k31,Nat.lt_succ_self _,_,_,_,_,Nat.le_of_succ_le hk32,E,upds_eq ⟨z,z,z,z,z,z,trivial⟩,H.sel [0] z z⟩
 · have E:=iF c35 E
   refine wc_exit (x_thn (x_thn (x_bk (n_thn (rg (v_ z (mv v19 z) ?_))))))
   obtain ⟨x43,E44,E⟩:=bind_some E
   refine e_ z (y_callL l_en_34 z ((ref05_Norm.calls (H.own 0 z (own_rd (H.get 0 z))) E44).mono ?_))
   rintro _ w ⟨v45,rfl,K⟩
   have H:=H.app K
   refine ⟨_,z,(v_ z (sg v45 z) (nl (wc_ret ?_)))⟩
   cases E
   exact ⟨.inl z,_,tk0 z ⟨resN z (rv_t rv_nil),_,z,H.sub1 1 z⟩⟩
def ref06_Div.j0 (k : Nat) (l80 : List (Int)) (l81 : List (Int)) : Option (List Int × List Int × Bool):=(ref05_Norm.f k l81).bind fun x149=>some (x149,l80,true)
def ref06_Div.l0 : Nat → List Int → Int → List (Int) → List (Int) → Int → Option (List Int × List Int × Bool)
 | 0,_,_,_,_,_=>none
 | k + 1,a1,x1,l105,l106,x107=>bif decide (x1 ≤ x107) then (grd (decide ((0 : Int) ≤ x1 ∧ x1 < (a1.length : Int))) ((ref05_Coef.f l105 x107).bind fun x134=>(ref01_Div.f k x134 (at_ 0 a1 x1)).bind fun x136=>grd (decide ((0 : Int) ≤ i64.wrap (x107 - x1) ∧ i64.wrap (x107 - x1) < (l106.length : Int))) ((ref05_Scale.f k x136 a1).bind fun x140=>(ref05_Up.f k x140 (i64.wrap (x107 - x1))).bind fun x143=>(ref05_Add.f k l105 x143).bind fun x146=>ref06_Div.l0 k a1 x1 x146 (l106.set (i64.wrap (x107 - x1)).toNat x136) (i64.wrap (x107 - 1))))) else (ref06_Div.j0 k l105 l106)
def ref06_Div.f (k : Nat) (a0 : List Int) (a1 : List Int) : Option (List Int × List Int × Bool):=(ref05_Deg.f k a1).bind fun x1=>bif decide (x1 < 0) then (some (([] : List (Int)),([] : List (Int)),false)) else ((ref05_Norm.f k a0).bind fun x5=>grd (decide ((0 : Int) ≤ i64.wrap ((a0.length : Int) + 1) ∧ i64.wrap ((a0.length : Int) + 1) ≤ i64.wrap ((a0.length : Int) + 1) ∧ i64.wrap ((a0.length : Int) + 1) ≤ 140737488355328)) (ref06_Div.l0 k a1 x1 x5 (List.replicate (i64.wrap ((a0.length : Int) + 1)).toNat (0 : Int)) (a0.length : Int)))
theorem ref06_Div.calls {w0 : World} {k : Nat} {a0 : List Int} {a1 : List Int} {v0_ : Value} {v1_ : Value} {r : List Int × List Int × Bool} (h0 : Rd (.of (.int .u8)) w0 (Ol no w0) v0_ a0) (h1 : Rd (.of (.int .u8)) w0 (Ol no w0) v1_ a1) (E : ref06_Div.f k a0 a1 = some r) :
   Calls Tryz.prog 33 #[v0_,v1_] w0 fun e w'=>∃ (u0 : Value) (u1 : Value),e = .returned (.tuple #[u0,u1,.bool r.2.2]) ∧ St no w0 w' [.own (.int .u8) 5 u0 r.1,.own (.int .u8) 5 u1 r.2.1]:=by
 have H:=St.nil no w0
 unfold ref06_Div.f at E
 refine calls_of_wc (N:=55) (args:=[v0_,v1_]) Tryz.func33 z z (by simp) ?_
 refine rg (v_ z (sg (.slice none 0 0) z) (v_ z (sg (.slice none 0 0) z) (v_ z (sg (.bool false) z) (nl (rg (v_ z (mv v1_ z) ?_))))))
 obtain ⟨x1,E2,E⟩:=bind_some E
 refine e_ z (y_callL l_en_59 z ((ref05_Deg.calls (H.arg (H.rd h1)) E2).mono ?_))
 rintro _ w ⟨rfl,K⟩
 have H:=H.app K
 refine ⟨_,z,(v_ z (sg (.int .i64 x1) z) (nl (wc_seq (rg (v_ z (mv (.int .i64 x1) z) (v_ z (r_lss z z) (nl ?_)))))))⟩
 refine wc_cond z (fun c4=>?_) (fun c4=>?_)
 · have E:=iT c4 E
   refine rg (v_ z (sg (.slice none 0 0) z) (v_ z (sg (.slice none 0 0) z) (v_ z (sg (.bool false) z) (nl (wc_ret ?_)))))
   have H:=H.nilOwn (.int .u8) 5
   have H:=H.nilOwn (.int .u8) 5
   cases E
   exact (r_thn ⟨.inl z,_,tk0 z ⟨resN z (rv_t (rv_t (rv_t rv_nil))),_,_,z,H.sub2 0 1 z z z⟩⟩)
 · have E:=iF c4 E
   refine wc_skip (n_thn (rg (v_ z (mv v0_ z) ?_)))
   obtain ⟨x5,E6,E⟩:=bind_some E
   refine e_ z (y_callL l_en_34 z ((ref05_Norm.calls (H.arg (H.rd h0)) E6).mono ?_))
   rintro _ w ⟨v7,rfl,K⟩
   have H:=H.app K
   refine ⟨_,z,(v_ z (sg v7 z) (nl (rg (v_ z (mv v0_ z) (v_ z (r_lenR e_ul_22 (H.rd h0) z) (v_ z (r_add z z) ?_))))))⟩
   obtain ⟨⟨g9,g10,g11⟩,E⟩:=grd_some E
   refine e_ z (y_make (e:=(.int .u8)) (z0:=0) e_sl_22 z H z z g9 g10 (by omega) (by omega) (fun v8 w H=>(v_ z (sg v8 z) (nl ?_))))
   refine wc_seqJ (fun t w=>∃ (k83 : Nat) (l80 : List (Int)) (l81 : List (Int)) (v79 : Value) (t82 : Fr),k83 ≤ k ∧ ref06_Div.j0 k83 l80 l81 = some r ∧ t = upds t82 [(4,.slice none 0 0),(5,.slice none 0 0),(6,.bool false),(8,v79),(9,v8),(1000000,undef)] ∧ St no w0 w [.own (.int .u8) 5 v79 l80,.own (.int .u8) 5 v8 l81]) ?_ ?_
   · refine rg (v_ z (mv v0_ z) (v_ z (r_lenR e_ul_22 (H.rd h0) z) (v_ z (sg (.int .i64 (a0.length : Int)) z) (nl (wc_block ?_)))))
     refine wc_loop (fun kk t w=>∃ (l105 : List (Int)) (l106 : List (Int)) (x107 : Int) (v104 : Value) (t129 : Fr),kk ≤ k ∧ ref06_Div.l0 kk a1 x1 l105 l106 x107 = some r ∧ t = upds t129 [(1,v1_),(4,.slice none 0 0),(5,.slice none 0 0),(6,.bool false),(7,.int .i64 x1),(8,v104),(9,v8),(10,.int .i64 x107),(1000000,undef)] ∧ St no w0 w [.own (.int .u8) 5 v104 l105,.own (.int .u8) 5 v8 l106]) k ?_ ?_
     · exact ⟨_,_,_,_,_,Nat.le_refl _,E,upds_eq ⟨z,z,z,z,z,z,z,z,z,trivial⟩,H⟩
     rintro kk t w ⟨l105,l106,x107,v104,t129,hk128,E,rfl,H⟩
     obtain ⟨k127,rfl⟩ | rfl : (∃ k',kk = k' + 1) ∨ kk = 0:=by cases kk; exact .inr rfl; exact .inl ⟨_,rfl⟩
     rotate_left
     · cases E
     rw [ref06_Div.l0] at E
     refine wc_seq (rg (v_ z (mv (.int .i64 x107) z) (v_ z (mv (.int .i64 x1) z) (v_ z (r_geq z z) (nl ?_)))))
     refine wc_cond z (fun c131=>?_) (fun c131=>?_)
     · have E:=iT c131 E
       refine wc_skip (n_thn (wc_seq (wc_block (wc_seq (wc_drawnS (ds:=[]) e_mo H z z ?_)))))
       have H:=H.drew
       refine wt 0 (tf 1 9) z z z (by kernel_rfl) H (fun w H=>(mv v104 z)) (wt 1 (tf 2 9) z z z (by kernel_rfl) H (fun w H=>(mv (.int .i64 x107) z)) (wt 3 #[true,true,false,true,false,false,false,false,false] z z z (by kernel_rfl) H (fun w H=>(mv v1_ z)) (wt 4 #[true,true,false,true,true,false,false,false,false] z z z (by kernel_rfl) H (fun w H=>(mv (.int .i64 x1) z)) ?_)))
       obtain ⟨⟨g132,g133⟩,E⟩:=grd_some E
       refine wt 5 #[true,true,false,true,true,true,false,false,false] z z z (by kernel_rfl) H (fun w H=>(r_idx e_sl_22 (H.rd h1) z z g132 g133)) (wt 6 #[true,true,false,true,true,true,true,false,false] z z z (by kernel_rfl) H (fun w H=>(r_ldI e_sc_5 (H.rd h1) g132 g133 z)) ?_)
       obtain ⟨x134,E135,E⟩:=bind_some E
       refine wa_one (i:=2) (l':=(tf 7 9)) z z z (by kernel_rfl) (y_callL l_en_16 z ((ref05_Coef.calls (H.own 0 z (own_rd (H.get 0 z))) E135).mono ?_))
       rintro _ w ⟨rfl,K⟩
       have H:=H.app K
       refine ⟨_,z,⟨fun _=>H.sel [0,1] z z,?_⟩⟩
       obtain ⟨x136,E137,E⟩:=bind_some E
       refine wa_one (i:=7) (l':=(tf 8 9)) z z z (by kernel_rfl) (y_callL l_en_60 z ((ref01_Div.calls E137).mono ?_))
       rintro _ w ⟨rfl,K⟩
       have H:=H.app K
       refine ⟨_,z,⟨fun _=>H.sel [0,1] z z,(wt 8 (tf 9 9) z z z (by kernel_rfl) (H.sel [0,1] z z) (fun w H=>(sg (.int .u8 x136) z)) (wa_done (by kernel_rfl) (n_thn (rg (v_ z (mv v8 z) (v_ z (mv (.int .i64 x107) z) (v_ z (mv (.int .i64 x1) z) (v_ z (r_sub z z) (v_ z (mv (.int .u8 x136) z) ?_)))))))))⟩⟩
       obtain ⟨⟨g138,g139⟩,E⟩:=grd_some E
       refine v_ z (r_idx e_sl_22 (own_rd (H.get 1 z)) z z g138 g139) (s_ (y_storeI e_sz_5 H 1 z g138 g139 z z (fun w H=>(nl (wc_region (v_ z (mv v104 z) (v_ z (mv (.int .u8 x136) z) (v_ z (mv v1_ z) ?_))))))))
       obtain ⟨x140,E141,E⟩:=bind_some E
       refine e_ z (y_callL l_en_62 z ((ref05_Scale.calls (H.arg (H.rd h1)) E141).mono ?_))
       rintro _ w ⟨v142,rfl,K⟩
       have H:=H.app K
       refine ⟨_,z,(v_ z (mv (.int .i64 x107) z) (v_ z (mv (.int .i64 x1) z) (v_ z (r_sub z z) ?_)))⟩
       obtain ⟨x143,E144,E⟩:=bind_some E
       refine e_ z (y_callL l_en_14 z ((ref05_Up.calls (H.own 2 z (own_rd (H.get 2 z))) E144).mono ?_))
       rintro _ w ⟨v145,rfl,K⟩
       have H:=H.app K
       refine ⟨_,z,?_⟩
       have H : St no w0 _ [.own (.int .u8) 5 v104 l105,.own (.int .u8) 5 v8 (l106.set (i64.wrap (x107 - x1)).toNat x136),.own (.int .u8) 5 v142 x140,.own (.int .u8) 5 v145 x143]:=H
       obtain ⟨x146,E147,E⟩:=bind_some E
       refine e_ z (y_callL l_en_61 z ((ref05_Add.calls (H.own 0 z (own_rd (H.get 0 z))) (H.own 3 z (own_rd (H.get 3 z))) E147).mono ?_))
       rintro _ w ⟨v148,rfl,K⟩
       have H:=H.app K
       refine ⟨_,z,(v_ z (sg v148 z) (wl_nil (n_bk (n_thn (wc_region (v_ z (mv (.int .i64 x107) z) (v_ z (r_sub z z) (v_ z (sg (.int .i64 (i64.wrap (x107 - 1))) z) (wl_nil ?_)))))))))⟩
       exact ⟨k127,Nat.lt_succ_self _,_,_,_,_,_,Nat.le_of_succ_le hk128,E,upds_eq ⟨z,z,z,z,z,z,z,z,z,trivial⟩,H.sel [4,1] z z⟩
     · have E:=iF c131 E
       refine wc_exit (x_thn (x_thn (x_bk ?_)))
       exact ⟨k127,_,_,_,_,by omega,E,upds_eq ⟨z,z,z,z,z,z,trivial⟩,H⟩
   rintro t w ⟨k83,l80,l81,v79,t82,hk84,E,rfl,H⟩
   unfold ref06_Div.j0 at E
   refine rg (v_ z (mv v8 z) ?_)
   obtain ⟨x149,E150,E⟩:=bind_some E
   refine e_ z (y_callL l_en_34 z ((ref05_Norm.calls (H.own 1 z (own_rd (H.get 1 z))) E150).mono ?_))
   rintro _ w ⟨v151,rfl,K⟩
   have H:=H.app K
   refine ⟨_,z,(v_ z (mv v79 z) (v_ z (sg v151 z) (v_ z (sg v79 z) (v_ z (sg (.bool true) z) (nl (wc_ret ?_))))))⟩
   cases E
   exact ⟨.inl z,_,tk0 z ⟨resN z (rv_t (rv_t (rv_t rv_nil))),_,_,z,H.sub2 2 0 z z z⟩⟩
def ref06_Mod.f (k : Nat) (a0 : List Int) (a1 : List Int) : Option (List Int × Bool):=(ref06_Div.f k a0 a1).bind fun x1=>some (x1.2.1,x1.2.2)
theorem ref06_Mod.calls {w0 : World} {k : Nat} {a0 : List Int} {a1 : List Int} {v0_ : Value} {v1_ : Value} {r : List Int × Bool} (h0 : Rd (.of (.int .u8)) w0 (Ol no w0) v0_ a0) (h1 : Rd (.of (.int .u8)) w0 (Ol no w0) v1_ a1) (E : ref06_Mod.f k a0 a1 = some r) :
   Calls Tryz.prog 13 #[v0_,v1_] w0 fun e w'=>∃ (u0 : Value),e = .returned (.tuple #[u0,.bool r.2]) ∧ St no w0 w' [.own (.int .u8) 5 u0 r.1]:=by
 have H:=St.nil no w0
 unfold ref06_Mod.f at E
 refine calls_of_wc (N:=18) (args:=[v0_,v1_]) Tryz.func13 z z (by simp) ?_
 refine rg (v_ z (sg (.slice none 0 0) z) (v_ z (sg (.bool false) z) (nl (rg (v_ z (mv v0_ z) (v_ z (mv v1_ z) ?_))))))
 obtain ⟨x1,E2,E⟩:=bind_some E
 refine e_ z (y_callL l_en_33 z ((ref06_Div.calls (H.arg (H.rd h0)) (H.arg (H.rd h1)) E2).mono ?_))
 rintro _ w ⟨v3,v4,rfl,K⟩
 have H:=H.app K
 refine ⟨_,z,(v_ z (r_move) (v_ z (r_extract z z) (v_ z (r_extract z z) (v_ z (r_extract z z) (v_ z (sg v3 z) (v_ z (sg v4 z) (v_ z (sg (.bool x1.2.2) z) (nl (rg (v_ z (mv v4 z) (v_ z (mv (.bool x1.2.2) z) (v_ z (sg v4 z) (v_ z (sg (.bool x1.2.2) z) (nl (wc_ret ?_)))))))))))))))⟩
 cases E
 exact ⟨.inl z,_,tk0 z ⟨resN z (rv_t (rv_t rv_nil)),_,z,H.sub1 1 z⟩⟩
mutual
def ref05_Mul.l0 : Nat → List Int → List Int → List (Int) → Int → Option (List Int)
 | 0,_,_,_,_=>none
 | k + 1,a0,a1,l48,x49=>bif decide (x49 < (a0.length : Int)) then (ref05_Mul.l1 k a0 a1 x49 l48 0) else ((ref05_Norm.f k l48).bind fun x139=>some x139)
def ref05_Mul.l1 : Nat → List Int → List Int → Int → List (Int) → Int → Option (List Int)
 | 0,_,_,_,_,_=>none
 | k + 1,a0,a1,x49,l110,x111=>bif decide (x111 < (a1.length : Int)) then (grd (decide ((0 : Int) ≤ i64.wrap (x49 + x111) ∧ i64.wrap (x49 + x111) < (l110.length : Int))) (grd (decide ((0 : Int) ≤ x49 ∧ x49 < (a0.length : Int))) (grd (decide ((0 : Int) ≤ x111 ∧ x111 < (a1.length : Int))) ((ref01_Mul.f k (at_ 0 a0 x49) (at_ 0 a1 x111)).bind fun x135=>grd (decide ((0 : Int) ≤ i64.wrap (x49 + x111) ∧ i64.wrap (x49 + x111) < (l110.length : Int))) (ref05_Mul.l1 k a0 a1 x49 (l110.set (i64.wrap (x49 + x111)).toNat (bits .xor .u8 (at_ 0 l110 (i64.wrap (x49 + x111))) x135)) (i64.wrap (x111 + 1))))))) else (ref05_Mul.l0 k a0 a1 l110 (i64.wrap (x49 + 1)))
end
def ref05_Mul.f (k : Nat) (a0 : List Int) (a1 : List Int) : Option (List Int):=grd (decide ((0 : Int) ≤ i64.wrap ((a0.length : Int) + (a1.length : Int)) ∧ i64.wrap ((a0.length : Int) + (a1.length : Int)) ≤ i64.wrap ((a0.length : Int) + (a1.length : Int)) ∧ i64.wrap ((a0.length : Int) + (a1.length : Int)) ≤ 140737488355328)) (ref05_Mul.l0 k a0 a1 (List.replicate (i64.wrap ((a0.length : Int) + (a1.length : Int))).toNat (0 : Int)) 0)
theorem ref05_Mul.calls {w0 : World} {k : Nat} {a0 : List Int} {a1 : List Int} {v0_ : Value} {v1_ : Value} {r : List Int} (h0 : Rd (.of (.int .u8)) w0 (Ol no w0) v0_ a0) (h1 : Rd (.of (.int .u8)) w0 (Ol no w0) v1_ a1) (E : ref05_Mul.f k a0 a1 = some r) :
   Calls Tryz.prog 63 #[v0_,v1_] w0 fun e w'=>∃ (u0 : Value),e = .returned (u0) ∧ St no w0 w' [.own (.int .u8) 5 u0 r]:=by
 have H:=St.nil no w0
 unfold ref05_Mul.f at E
 refine calls_of_wc (N:=49) (args:=[v0_,v1_]) Tryz.func63 z z (by simp) ?_
 refine rg (v_ z (sg (.slice none 0 0) z) (nl (rg (v_ z (mv v0_ z) (v_ z (r_lenR e_ul_22 (H.rd h0) z) (v_ z (mv v1_ z) (v_ z (r_lenR e_ul_22 (H.rd h1) z) (v_ z (r_add z z) ?_))))))))
 obtain ⟨⟨g2,g3,g4⟩,E⟩:=grd_some E
 refine e_ z (y_make (e:=(.int .u8)) (z0:=0) e_sl_22 z H z z g2 g3 (by omega) (by omega) (fun v1 w H=>(v_ z (sg v1 z) (nl (wc_seq (rg (v_ z (sg (.int .i64 0) z) (nl (wc_block ?_)))))))))
 refine wc_loop (fun kk t w=>∃ (l48 : List (Int)) (x49 : Int) (t95 : Fr),kk ≤ k ∧ ref05_Mul.l0 kk a0 a1 l48 x49 = some r ∧ t = upds t95 [(0,v0_),(1,v1_),(4,.slice none 0 0),(5,v1),(6,.int .i64 x49),(1000000,undef)] ∧ St no w0 w [.own (.int .u8) 5 v1 l48]) k ?_ ?_
 · exact ⟨_,_,_,Nat.le_refl _,E,upds_eq ⟨z,z,z,z,z,z,trivial⟩,H⟩
 rintro kk t w ⟨l48,x49,t95,hk94,E,rfl,H⟩
 obtain ⟨k93,rfl⟩ | rfl : (∃ k',kk = k' + 1) ∨ kk = 0:=by cases kk; exact .inr rfl; exact .inl ⟨_,rfl⟩
 rotate_left
 · cases E
 rw [ref05_Mul.l0] at E
 refine wc_seq (rg (v_ z (mv (.int .i64 x49) z) (v_ z (mv v0_ z) (v_ z (r_lenR e_ul_22 (H.rd h0) z) (v_ z (r_lss z z) (nl ?_))))))
 refine wc_cond z (fun c97=>?_) (fun c97=>?_)
 · have E:=iT c97 E
   refine wc_skip (n_thn (wc_seq (wc_block (rg (v_ z (sg (.int .i64 0) z) (nl (wc_block ?_)))))))
   refine wc_loop (fun kk t w=>∃ (l110 : List (Int)) (x111 : Int) (t126 : Fr),kk ≤ k93 ∧ ref05_Mul.l1 kk a0 a1 x49 l110 x111 = some r ∧ t = upds t126 [(0,v0_),(1,v1_),(4,.slice none 0 0),(5,v1),(6,.int .i64 x49),(7,.int .i64 x111),(1000000,undef)] ∧ St no w0 w [.own (.int .u8) 5 v1 l110]) k93 ?_ ?_
   · exact ⟨_,_,_,Nat.le_refl _,E,upds_eq ⟨z,z,z,z,z,z,z,trivial⟩,H⟩
   rintro kk t w ⟨l110,x111,t126,hk125,E,rfl,H⟩
   obtain ⟨k124,rfl⟩ | rfl : (∃ k',kk = k' + 1) ∨ kk = 0:=by cases kk; exact .inr rfl; exact .inl ⟨_,rfl⟩
   rotate_left
   · cases E
   rw [ref05_Mul.l1] at E
   refine wc_seq (rg (v_ z (mv (.int .i64 x111) z) (v_ z (mv v1_ z) (v_ z (r_lenR e_ul_22 (H.rd h1) z) (v_ z (r_lss z z) (nl ?_))))))
   refine wc_cond z (fun c128=>?_) (fun c128=>?_)
   · have E:=iT c128 E
     refine wc_skip (n_thn (wc_seq (wc_block (wc_drawnS (ds:=[21]) e_mo H z z ?_))))
     have H:=H.drew
     refine wt 0 (tf 1 22) z z z (by kernel_rfl) H (fun w H=>(mv v1 z)) (wt 1 (tf 2 22) z z z (by kernel_rfl) H (fun w H=>(mv (.int .i64 x49) z)) (wt 2 (tf 3 22) z z z (by kernel_rfl) H (fun w H=>(mv (.int .i64 x111) z)) (wt 3 (tf 4 22) z z z (by kernel_rfl) H (fun w H=>(r_add z z)) (wt 4 (tf 5 22) z z z (by kernel_rfl) H (fun w H=>(mv v1 z)) (wt 5 (tf 6 22) z z z (by kernel_rfl) H (fun w H=>(mv (.int .i64 x49) z)) (wt 6 (tf 7 22) z z z (by kernel_rfl) H (fun w H=>(mv (.int .i64 x111) z)) (wt 7 (tf 8 22) z z z (by kernel_rfl) H (fun w H=>(r_add z z)) ?_)))))))
     obtain ⟨⟨g129,g130⟩,E⟩:=grd_some E
     refine wt 8 (tf 9 22) z z z (by kernel_rfl) H (fun w H=>(r_idx e_sl_22 (own_rd (H.get 0 z)) z z g129 g130)) (wt 9 (tf 10 22) z z z (by kernel_rfl) H (fun w H=>(r_ldI e_sc_5 (own_rd (H.get 0 z)) g129 g130 z)) (wt 10 (tf 11 22) z z z (by kernel_rfl) H (fun w H=>(mv v0_ z)) (wt 11 (tf 12 22) z z z (by kernel_rfl) H (fun w H=>(mv (.int .i64 x49) z)) ?_)))
     obtain ⟨⟨g131,g132⟩,E⟩:=grd_some E
     refine wt 12 (tf 13 22) z z z (by kernel_rfl) H (fun w H=>(r_idx e_sl_22 (H.rd h0) z z g131 g132)) (wt 13 (tf 14 22) z z z (by kernel_rfl) H (fun w H=>(r_ldI e_sc_5 (H.rd h0) g131 g132 z)) (wt 14 (tf 15 22) z z z (by kernel_rfl) H (fun w H=>(mv v1_ z)) (wt 15 (tf 16 22) z z z (by kernel_rfl) H (fun w H=>(mv (.int .i64 x111) z)) ?_)))
     obtain ⟨⟨g133,g134⟩,E⟩:=grd_some E
     refine wt 16 (tf 17 22) z z z (by kernel_rfl) H (fun w H=>(r_idx e_sl_22 (H.rd h1) z z g133 g134)) (wt 17 (tf 18 22) z z z (by kernel_rfl) H (fun w H=>(r_ldI e_sc_5 (H.rd h1) g133 g134 z)) ?_)
     obtain ⟨x135,E136,E⟩:=bind_some E
     refine wa_one (i:=18) (l':=(tf 19 22)) z z z (by kernel_rfl) (y_callL l_en_99 z ((ref01_Mul.calls E136).mono ?_))
     rintro _ w ⟨rfl,K⟩
     have H:=H.app K
     refine ⟨_,z,⟨fun _=>H.sel [0] z z,(wt 19 (tf 20 22) z z z (by kernel_rfl) (H.sel [0] z z) (fun w H=>(r_xor z z)) ?_)⟩⟩
     obtain ⟨⟨g137,g138⟩,E⟩:=grd_some E
     refine wt 20 (tf 21 22) z z z (by kernel_rfl) (H.sel [0] z z) (fun w H=>(r_idx e_sl_22 (own_rd (H.get 0 z)) z z g137 g138)) (wa_one (i:=21) (l':=(tf 22 22)) z z z (by kernel_rfl) (y_storeI e_sz_5 H 0 z g137 g138 z z (fun w H=>⟨fun h=>(h (by decide)).elim,(wa_done (by kernel_rfl) (n_bk (n_thn (wc_region (v_ z (mv (.int .i64 x111) z) (v_ z (r_add z z) (v_ z (sg (.int .i64 (i64.wrap (x111 + 1))) z) (wl_nil ?_))))))))⟩)))
     exact ⟨k124,Nat.lt_succ_self _,_,_,_,Nat.le_of_succ_le hk125,E,upds_eq ⟨z,z,z,z,z,z,z,trivial⟩,H⟩
   · have E:=iF c128 E
     refine wc_exit (x_thn (x_thn (x_bk (n_bk (n_thn (wc_region (v_ z (mv (.int .i64 x49) z) (v_ z (r_add z z) (v_ z (sg (.int .i64 (i64.wrap (x49 + 1))) z) (wl_nil ?_))))))))))
     exact ⟨k124,by omega,_,_,_,by omega,E,upds_eq ⟨z,z,z,z,z,z,trivial⟩,H⟩
 · have E:=iF c97 E
   refine wc_exit (x_thn (x_thn (x_bk (n_thn (rg (v_ z (mv v1 z) ?_))))))
   obtain ⟨x139,E140,E⟩:=bind_some E
   refine e_ z (y_callL l_en_34 z ((ref05_Norm.calls (H.own 0 z (own_rd (H.get 0 z))) E140).mono ?_))
   rintro _ w ⟨v141,rfl,K⟩
   have H:=H.app K
   refine ⟨_,z,(v_ z (sg v141 z) (nl (wc_ret ?_)))⟩
   cases E
   exact ⟨.inl z,_,tk0 z ⟨resN z (rv_t rv_nil),_,z,H.sub1 1 z⟩⟩
def ref07_From.l0 : Nat → List Int → List (Int) → Int → Option (List Int)
 | 0,_,_,_=>none
 | k + 1,a0,l11,x12=>bif decide (x12 < (a0.length : Int)) then (grd (decide ((0 : Int) ≤ x12 ∧ x12 < (a0.length : Int))) ((ref05_Mul.f k l11 ([at_ 0 a0 x12,1])).bind fun x29=>ref07_From.l0 k a0 x29 (i64.wrap (x12 + 1)))) else (some l11)
def ref07_From.f (k : Nat) (a0 : List Int) : Option (List Int):=ref07_From.l0 k a0 ([1]) 0
theorem ref07_From.calls {w0 : World} {k : Nat} {a0 : List Int} {v0_ : Value} {r : List Int} (h0 : Rd (.of (.int .u8)) w0 (Ol no w0) v0_ a0) (E : ref07_From.f k a0 = some r) :
   Calls Tryz.prog 35 #[v0_] w0 fun e w'=>∃ (u0 : Value),e = .returned (u0) ∧ St no w0 w' [.own (.int .u8) 5 u0 r]:=by
 have H:=St.nil no w0
 unfold ref07_From.f at E
 refine calls_of_wc (N:=20) (args:=[v0_]) Tryz.func35 z z (by simp) ?_
 refine rg (v_ z (sg (.slice none 0 0) z) (nl (rg (e_ z (y_bsL (e:=(.int .u8)) (l:=[1]) e_sl_22 H z (by decide) ⟨z,z,trivial⟩ (by decide) (fun v1 w H=>(v_ z (sg v1 z) (nl (wc_seq (rg (v_ z (sg (.int .i64 0) z) (nl (wc_block ?_)))))))))))))
 refine wc_loop (fun kk t w=>∃ (l11 : List (Int)) (x12 : Int) (v10 : Value) (t23 : Fr),kk ≤ k ∧ ref07_From.l0 kk a0 l11 x12 = some r ∧ t = upds t23 [(0,v0_),(2,.slice none 0 0),(3,v10),(4,.int .i64 x12),(1000000,undef)] ∧ St no w0 w [.own (.int .u8) 5 v10 l11]) k ?_ ?_
 · exact ⟨_,_,_,_,Nat.le_refl _,E,upds_eq ⟨z,z,z,z,z,trivial⟩,H⟩
 rintro kk t w ⟨l11,x12,v10,t23,hk22,E,rfl,H⟩
 obtain ⟨k21,rfl⟩ | rfl : (∃ k',kk = k' + 1) ∨ kk = 0:=by cases kk; exact .inr rfl; exact .inl ⟨_,rfl⟩
 rotate_left
 · cases E
 rw [ref07_From.l0] at E
 refine wc_seq (rg (v_ z (mv (.int .i64 x12) z) (v_ z (mv v0_ z) (v_ z (r_lenR e_ul_22 (H.rd h0) z) (v_ z (r_lss z z) (nl ?_))))))
 refine wc_cond z (fun c25=>?_) (fun c25=>?_)
 · have E:=iT c25 E
   refine wc_skip (n_thn (wc_seq (wc_block (wc_region (v_ z (mv v10 z) (v_ z (mv v0_ z) (v_ z (mv (.int .i64 x12) z) ?_)))))))
   obtain ⟨⟨g26,g27⟩,E⟩:=grd_some E
   refine v_ z (r_idx e_sl_22 (H.rd h0) z z g26 g27) (v_ z (r_ldI e_sc_5 (H.rd h0) g26 g27 z) (e_ z (y_bsL (e:=(.int .u8)) (l:=[at_ 0 a0 x12,1]) e_sl_22 H z (by decide) ⟨z,z,z,z,trivial⟩ (by decide) (fun v28 w H=>?_))))
   obtain ⟨x29,E30,E⟩:=bind_some E
   refine e_ z (y_callL l_en_63 z ((ref05_Mul.calls (H.own 0 z (own_rd (H.get 0 z))) (H.own 1 z (own_rd (H.get 1 z))) E30).mono ?_))
   rintro _ w ⟨v31,rfl,K⟩
   have H:=H.app K
   refine ⟨_,z,(v_ z (sg v31 z) (wl_nil (n_bk (n_thn (wc_region (v_ z (mv (.int .i64 x12) z) (v_ z (r_add z z) (v_ z (sg (.int .i64 (i64.wrap (x12 + 1))) z) (wl_nil ?_)))))))))⟩
   exact ⟨k21,Nat.lt_succ_self _,_,_,_,_,Nat.le_of_succ_le hk22,E,upds_eq ⟨z,z,z,z,z,trivial⟩,H.sel [2] z z⟩
 · have E:=iF c25 E
   refine wc_exit (x_thn (x_thn (x_bk (n_thn (rg (v_ z (mv v10 z) (v_ z (sg v10 z) (nl (wc_ret ?_)))))))))
   cases E
   exact ⟨.inl z,_,tk0 z ⟨resN z (rv_t rv_nil),_,z,H.sub1 0 z⟩⟩
def ref01_Pow.j0 (l0r : Int → Int → Int → Int → Option (Int)) (k : Nat) (a0 : Int) (x7 : Int) : Option (Int):=l0r a0 x7 1 0
def ref01_Pow.l0 : Nat → Int → Int → Int → Int → Option (Int)
 | 0,_,_,_,_=>none
 | k + 1,a0,x7,x16,x17=>bif decide (x17 < x7) then ((ref01_Mul.f k x16 a0).bind fun x27=>ref01_Pow.l0 k a0 x7 x27 (i64.wrap (x17 + 1))) else (some x16)
def ref01_Pow.f (k : Nat) (a0 : Int) (a1 : Int) : Option (Int):=bif decide (a1 = 0) then (some 1) else (bif decide (a0 = 0) then (some 0) else (bif decide (Int.tmod a1 255 < 0) then (ref01_Pow.j0 (ref01_Pow.l0 k) k a0 (i64.wrap ((Int.tmod a1 255) + 255))) else (ref01_Pow.j0 (ref01_Pow.l0 k) k a0 (Int.tmod a1 255))))
theorem ref01_Pow.calls {w0 : World} {k : Nat} {a0 : Int} {a1 : Int} {r : Int}  (E : ref01_Pow.f k a0 a1 = some r) :
   Calls Tryz.prog 100 #[.int .u8 a0,.int .i64 a1] w0 fun e w'=>e = .returned (.int .u8 r) ∧ St no w0 w' []:=by
 have H:=St.nil no w0
 unfold ref01_Pow.f at E
 refine calls_of_wc (N:=27) (args:=[.int .u8 a0,.int .i64 a1]) Tryz.func100 z z (by simp) ?_
 refine rg (v_ z (sg (.int .u8 0) z) (nl (wc_seq (rg (v_ z (mv (.int .i64 a1) z) (v_ z (r_eql z z) (nl ?_)))))))
 refine wc_cond z (fun c2=>?_) (fun c2=>?_)
 · have E:=iT c2 E
   refine rg (v_ z (sg (.int .u8 1) z) (nl (wc_ret ?_)))
   cases E
   exact (r_thn ⟨.inl z,_,tk0 z ⟨resN z (rv_t rv_nil),z,H.sub0⟩⟩)
 · have E:=iF c2 E
   refine wc_skip (n_thn (wc_seq (rg (v_ z (mv (.int .u8 a0) z) (v_ z (r_eql z z) (nl ?_))))))
   refine wc_cond z (fun c4=>?_) (fun c4=>?_)
   · have E:=iT c4 E
     refine rg (v_ z (sg (.int .u8 0) z) (nl (wc_ret ?_)))
     cases E
     exact (r_thn ⟨.inl z,_,tk0 z ⟨resN z (rv_t rv_nil),z,H.sub0⟩⟩)
   · have E:=iF c4 E
     refine wc_skip (n_thn (rg (v_ z (mv (.int .i64 a1) z) (v_ z (r_rem z z (by decide)) (v_ z (sg (.int .i64 (Int.tmod a1 255)) z) (nl ?_))))))
     refine wc_seqJ (fun t w=>∃ (k9 : Nat) (x7 : Int) (t8 : Fr),k9 ≤ k ∧ ref01_Pow.j0 (ref01_Pow.l0 k9) k9 a0 x7 = some r ∧ t = upds t8 [(0,.int .u8 a0),(4,.int .u8 0),(5,.int .i64 x7),(1000000,undef)] ∧ St no w0 w []) ?_ ?_
     · refine rg (v_ z (mv (.int .i64 (Int.tmod a1 255)) z) (v_ z (r_lss z z) (nl ?_)))
       refine wc_cond z (fun c11=>?_) (fun c11=>?_)
       · have E:=iT c11 E
         refine wc_region (v_ z (mv (.int .i64 (Int.tmod a1 255)) z) (v_ z (r_add z z) (v_ z (sg (.int .i64 (i64.wrap ((Int.tmod a1 255) + 255))) z) (wl_nil ?_))))
         exact ⟨k,_,_,Nat.le_refl _,E,upds_eq ⟨z,z,z,z,trivial⟩,H⟩
       · have E:=iF c11 E
         refine wc_skip ?_
         exact ⟨k,_,_,Nat.le_refl _,E,upds_eq ⟨z,z,z,z,trivial⟩,H⟩
     rintro t w ⟨k9,x7,t8,hk10,E,rfl,H⟩
     unfold ref01_Pow.j0 at E
     refine rg (v_ z (sg (.int .u8 1) z) (nl (wc_seq (rg (v_ z (sg (.int .i64 0) z) (nl (wc_block ?_)))))))
     refine wc_loop (fun kk t w=>∃ (x16 : Int) (x17 : Int) (t24 : Fr),kk ≤ k9 ∧ ref01_Pow.l0 kk a0 x7 x16 x17 = some r ∧ t = upds t24 [(0,.int .u8 a0),(4,.int .u8 0),(5,.int .i64 x7),(6,.int .u8 x16),(7,.int .i64 x17),(1000000,undef)] ∧ St no w0 w []) k9 ?_ ?_
     · exact ⟨_,_,_,Nat.le_refl _,E,upds_eq ⟨z,z,z,z,z,z,trivial⟩,H⟩
     rintro kk t w ⟨x16,x17,t24,hk23,E,rfl,H⟩
     obtain ⟨k22,rfl⟩ | rfl : (∃ k',kk = k' + 1) ∨ kk = 0:=by cases kk; exact .inr rfl; exact .inl ⟨_,rfl⟩
     rotate_left
     · cases E
     rw [ref01_Pow.l0] at E
     refine wc_seq (rg (v_ z (mv (.int .i64 x17) z) (v_ z (mv (.int .i64 x7) z) (v_ z (r_lss z z) (nl ?_)))))
     refine wc_cond z (fun c26=>?_) (fun c26=>?_)
     · have E:=iT c26 E
       refine wc_skip (n_thn (wc_seq (wc_block (wc_region (v_ z (mv (.int .u8 x16) z) (v_ z (mv (.int .u8 a0) z) ?_))))))
       obtain ⟨x27,E28,E⟩:=bind_some E
       refine e_ z (y_callL l_en_99 z ((ref01_Mul.calls E28).mono ?_))
       rintro _ w ⟨rfl,K⟩
       have H:=H.app K
       refine ⟨_,z,(v_ z (sg (.int .u8 x27) z) (wl_nil (n_bk (n_thn (wc_region (v_ z (mv (.int .i64 x17) z) (v_ z (r_add z z) (v_ z (sg (.int .i64 (i64.wrap (x17 + 1))) z) (wl_nil ?_)))))))))⟩
       exact ⟨k22,Nat.lt_succ_self _,_,_,_,Nat.le_of_succ_le hk23,E,upds_eq ⟨z,z,z,z,z,z,trivial⟩,H⟩
     · have E:=iF c26 E
       refine wc_exit (x_thn (x_thn (x_bk (n_thn (rg (v_ z (mv (.int .u8 x16) z) (v_ z (sg (.int .u8 x16) z) (nl (wc_ret ?_)))))))))
       cases E
       exact ⟨.inl z,_,tk0 z ⟨resN z (rv_t rv_nil),z,H.sub0⟩⟩
def ref10_Point.f (k : Nat) (a0 : Int) : Option (Int):=(ref01_Pow.f k 2 a0).bind fun x1=>some x1
theorem ref10_Point.calls {w0 : World} {k : Nat} {a0 : Int} {r : Int}  (E : ref10_Point.f k a0 = some r) :
   Calls Tryz.prog 64 #[.int .i64 a0] w0 fun e w'=>e = .returned (.int .u8 r) ∧ St no w0 w' []:=by
 have H:=St.nil no w0
 unfold ref10_Point.f at E
 refine calls_of_wc (N:=5) (args:=[.int .i64 a0]) Tryz.func64 z z (by simp) ?_
 refine rg (v_ z (sg (.int .u8 0) z) (nl (rg (v_ z (mv (.int .i64 a0) z) ?_))))
 obtain ⟨x1,E2,E⟩:=bind_some E
 refine e_ z (y_callL l_en_100 z ((ref01_Pow.calls E2).mono ?_))
 rintro _ w ⟨rfl,K⟩
 have H:=H.app K
 refine ⟨_,z,(v_ z (sg (.int .u8 x1) z) (nl (wc_ret ?_)))⟩
 cases E
 exact ⟨.inl z,_,tk0 z ⟨resN z (rv_t rv_nil),z,H.sub0⟩⟩
def ref10_Roots.l0 : Nat → (Int × Int × Int) → List (Int) → Int → Option (List Int)
 | 0,_,_,_=>none
 | k + 1,a0,l25,x26=>(ref10_Space.f (a0.1,a0.2.1,a0.2.2)).bind fun x44=>bif decide (x26 < x44) then ((ref10_Point.f k (i64.wrap (a0.2.2 + x26))).bind fun x47=>grd (decide ((l25.length + ([x47]).length) * 1 ≤ 140737488355328)) (ref10_Roots.l0 k a0 (l25 ++ ([x47])) (i64.wrap (x26 + 1)))) else (some l25)
def ref10_Roots.f (k : Nat) (a0 : Int × Int × Int) : Option (List Int):=ref10_Roots.l0 k a0 ([] : List (Int)) 0
theorem ref10_Roots.calls {w0 : World} {k : Nat} {a0 : Int × Int × Int} {r : List Int}  (E : ref10_Roots.f k a0 = some r) :
   Calls Tryz.prog 36 #[.agg #[.int .i64 a0.1,.int .i64 a0.2.1,.int .i64 a0.2.2]] w0 fun e w'=>∃ (u0 : Value),e = .returned (u0) ∧ St no w0 w' [.own (.int .u8) 5 u0 r]:=by
 have H:=St.nil no w0
 unfold ref10_Roots.f at E
 refine calls_of_wc (N:=20) (args:=[.agg #[.int .i64 a0.1,.int .i64 a0.2.1,.int .i64 a0.2.2]]) Tryz.func36 z z (by simp) ?_
 refine rg (e_ z (y_boxS (cs:=#[.int .i64 a0.1,.int .i64 a0.2.1,.int .i64 a0.2.2]) H z (fun b1 w H=>(v_ z (sg (.slice none 0 0) z) (nl (rg (v_ z (sg (.slice none 0 0) z) (nl (wc_seq (rg (v_ z (sg (.int .i64 0) z) (nl (wc_block ?_)))))))))))))
 have H:=H.nilOwn (.int .u8) 5
 refine wc_loop (fun kk t w=>∃ (l25 : List (Int)) (x26 : Int) (v24 : Value) (t40 : Fr),kk ≤ k ∧ ref10_Roots.l0 kk a0 l25 x26 = some r ∧ t = upds t40 [(1,pt b1),(2,.slice none 0 0),(3,v24),(4,.int .i64 x26),(1000000,undef)] ∧ St no w0 w [.blk b1 #[.int .i64 a0.1,.int .i64 a0.2.1,.int .i64 a0.2.2] 24,.own (.int .u8) 5 v24 l25]) k ?_ ?_
 · exact ⟨_,_,_,_,Nat.le_refl _,E,upds_eq ⟨z,z,z,z,z,trivial⟩,H⟩
 rintro kk t w ⟨l25,x26,v24,t40,hk39,E,rfl,H⟩
 obtain ⟨k38,rfl⟩ | rfl : (∃ k',kk = k' + 1) ∨ kk = 0:=by cases kk; exact .inr rfl; exact .inl ⟨_,rfl⟩
 rotate_left
 · cases E
 rw [ref10_Roots.l0] at E
 refine wc_seq (rg (v_ z (mv (.int .i64 x26) z) (v_ z (r_loadB (l:=[.int .i64 a0.1,.int .i64 a0.2.1,.int .i64 a0.2.2]) e_ag_24 (H.get 0 z) z z z) ?_)))
 obtain ⟨x44,E45,E⟩:=bind_some E
 refine e_ z (y_callL l_en_12 z ((ref10_Space.calls E45).mono ?_))
 rintro _ w ⟨rfl,K⟩
 have H:=H.app K
 refine ⟨_,z,(v_ z (r_lss z z) (nl ?_))⟩
 refine wc_cond z (fun c46=>?_) (fun c46=>?_)
 · have E:=iT c46 E
   refine wc_skip (n_thn (wc_seq (wc_block (wc_region (v_ z (mv v24 z) (v_ z (r_faddr e_fa_24_2 z) (v_ z (r_load e_sc_3 z (blk_cell (H.get 0 z) z)) (v_ z (mv (.int .i64 x26) z) (v_ z (r_add z z) ?_)))))))))
   obtain ⟨x47,E48,E⟩:=bind_some E
   refine e_ z (y_callL l_en_64 z ((ref10_Point.calls E48).mono ?_))
   rintro _ w ⟨rfl,K⟩
   have H:=H.app K
   refine ⟨_,z,(e_ z (y_bsL (e:=(.int .u8)) (l:=[x47]) e_sl_22 H z (by decide) ⟨z,z,trivial⟩ (by decide) (fun v49 w H=>?_)))⟩
   obtain ⟨g51,E⟩:=grd_some E
   refine e_ z (y_app e_sl_22 H 1 z (own_rd (H.get 2 z)) z z (by omega) (by unfold maxLen; omega) (fun v50 w H=>(v_ z (sg v50 z) (wl_nil (n_bk (n_thn (wc_region (v_ z (mv (.int .i64 x26) z) (v_ z (r_add z z) (v_ z (sg (.int .i64 (i64.wrap (x26 + 1))) z) (wl_nil ?_)))))))))))
   exact ⟨k38,Nat.lt_succ_self _,_,_,_,_,Nat.le_of_succ_le hk39,E,upds_eq ⟨z,z,z,z,z,trivial⟩,H.sel [0,1] z z⟩
 · have E:=iF c46 E
   refine wc_exit (x_thn (x_thn (x_bk (n_thn (rg (v_ z (mv v24 z) (v_ z (sg v24 z) (nl (wc_ret ?_)))))))))
   cases E
   exact ⟨.inl z,_,tk0 z ⟨resN z (rv_t rv_nil),_,z,H.sub1 1 z⟩⟩
def ref10_Generator.f (k : Nat) (a0 : Int × Int × Int) : Option (List Int):=(ref10_Right.f (a0.1,a0.2.1,a0.2.2)).bind fun x5=>bif !decide (x5 = 0) then (some ([] : List (Int))) else ((ref10_Roots.f k (a0.1,a0.2.1,a0.2.2)).bind fun x8=>(ref07_From.f k x8).bind fun x11=>some x11)
theorem ref10_Generator.calls {w0 : World} {k : Nat} {a0 : Int × Int × Int} {r : List Int}  (E : ref10_Generator.f k a0 = some r) :
   Calls Tryz.prog 15 #[.agg #[.int .i64 a0.1,.int .i64 a0.2.1,.int .i64 a0.2.2]] w0 fun e w'=>∃ (u0 : Value),e = .returned (u0) ∧ St no w0 w' [.own (.int .u8) 5 u0 r]:=by
 have H:=St.nil no w0
 unfold ref10_Generator.f at E
 refine calls_of_wc (N:=9) (args:=[.agg #[.int .i64 a0.1,.int .i64 a0.2.1,.int .i64 a0.2.2]]) Tryz.func15 z z (by simp) ?_
 refine rg (e_ z (y_boxS (cs:=#[.int .i64 a0.1,.int .i64 a0.2.1,.int .i64 a0.2.2]) H z (fun b1 w H=>(v_ z (sg (.slice none 0 0) z) (nl (wc_seq (rg (v_ z (r_loadB (l:=[.int .i64 a0.1,.int .i64 a0.2.1,.int .i64 a0.2.2]) e_ag_24 (H.get 0 z) z z z) ?_))))))))
 obtain ⟨x5,E6,E⟩:=bind_some E
 refine e_ z (y_callL l_en_11 z ((ref10_Right.calls E6).mono ?_))
 rintro _ w ⟨rfl,K⟩
 have H:=H.app K
 refine ⟨_,z,(v_ z (r_neq z z) (nl ?_))⟩
 refine wc_cond z (fun c7=>?_) (fun c7=>?_)
 · have E:=iT c7 E
   refine rg (v_ z (sg (.slice none 0 0) z) (nl (wc_ret ?_)))
   have H:=H.nilOwn (.int .u8) 5
   cases E
   exact (r_thn ⟨.inl z,_,tk0 z ⟨resN z (rv_t rv_nil),_,z,H.sub1 1 z⟩⟩)
 · have E:=iF c7 E
   refine wc_skip (n_thn (rg (v_ z (r_loadB (l:=[.int .i64 a0.1,.int .i64 a0.2.1,.int .i64 a0.2.2]) e_ag_24 (H.get 0 z) z z z) ?_)))
   obtain ⟨x8,E9,E⟩:=bind_some E
   refine e_ z (y_callL l_en_36 z ((ref10_Roots.calls E9).mono ?_))
   rintro _ w ⟨v10,rfl,K⟩
   have H:=H.app K
   refine ⟨_,z,?_⟩
   obtain ⟨x11,E12,E⟩:=bind_some E
   refine e_ z (y_callL l_en_35 z ((ref07_From.calls (H.own 1 z (own_rd (H.get 1 z))) E12).mono ?_))
   rintro _ w ⟨v13,rfl,K⟩
   have H:=H.app K
   refine ⟨_,z,(v_ z (sg v13 z) (nl (wc_ret ?_)))⟩
   cases E
   exact ⟨.inl z,_,tk0 z ⟨resN z (rv_t rv_nil),_,z,H.sub1 2 z⟩⟩
end Go.Proofs.YtkndgkbgbmhjoaaGreatDoor.Gw
