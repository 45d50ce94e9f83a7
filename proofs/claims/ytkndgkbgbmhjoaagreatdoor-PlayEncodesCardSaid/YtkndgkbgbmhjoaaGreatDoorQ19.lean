/- The card of the law that what a desk encodes is read back from what it tells: a part of its proof. The conditions are those of the statement. -/
import Derived.Test.YtkndgkbgbmhjoaaGreatDoorQ4
import Derived.Test.YtkndgkbgbmhjoaaGreatDoorQ3
import Derived.Test.YtkndgkbgbmhjoaaGreatDoorQ18
namespace Go.Proofs.YtkndgkbgbmhjoaaGreatDoor.Gw
open Go Go.RowKit
set_option linter.unusedVariables false
set_option linter.unusedSimpArgs false
set_option linter.unusedSectionVars false
variable [LibO]
set_option linter.unnecessarySimpa false
set_option maxRecDepth 100000
set_option maxHeartbeats 4000000
open Go.IntKind (i8 i16 i32 i64 u8 u16 u32 u64)
def pick_Choose.j2 (x35 : Int) (x87 : Int) : Option ((Int × Int) × Int):=some ((x35,x87),0)
def pick_Choose.j0 (a0 : Int × Int × Int) (a1 : Int) (a2 : Int × Int) (x35 : Int) : Option ((Int × Int) × Int):=bif decide (a2.2 = 0) then ((pick_Choose_4.f ((a0.1,a0.2.1,a0.2.2),a1)).bind fun x92=>bif x92 then (pick_Choose.j2 x35 1) else ((pick_Choose_5.f ((a0.1,a0.2.1,a0.2.2),a1)).bind fun x96=>bif x96 then (pick_Choose.j2 x35 2) else ((pick_Choose_6.f ((a0.1,a0.2.1,a0.2.2),a1)).bind fun x100=>bif x100 then (pick_Choose.j2 x35 3) else (pick_Choose.j2 x35 0)))) else (some ((x35,a2.2),0))
def pick_Choose.j1 (a0 : Int × Int × Int) (a1 : Int) (a2 : Int × Int) (x55 : Int) : Option ((Int × Int) × Int):=pick_Choose.j0 a0 a1 a2 x55
def pick_Choose.f (a0 : Int × Int × Int) (a1 : Int) (a2 : Int × Int) : Option ((Int × Int) × Int):=(code_Right.f (a0.1,a0.2.1,a0.2.2)).bind fun x7=>bif !decide (x7 = 0) then (some ((0,0),x7)) else ((pick_Right.f (a2.1,a2.2)).bind fun x13=>bif !decide (x13 = 0) then (some ((0,0),x13)) else (bif decide (a2.1 = 0) then ((pick_Choose_1.f ((a0.1,a0.2.1,a0.2.2),a1)).bind fun x60=>bif x60 then (pick_Choose.j1 a0 a1 a2 3) else ((pick_Choose_2.f ((a0.1,a0.2.1,a0.2.2),a1)).bind fun x64=>bif x64 then (pick_Choose.j1 a0 a1 a2 2) else ((pick_Choose_3.f ((a0.1,a0.2.1,a0.2.2),a1)).bind fun x68=>bif x68 then (pick_Choose.j1 a0 a1 a2 1) else (pick_Choose.j1 a0 a1 a2 0)))) else (pick_Choose.j0 a0 a1 a2 a2.1)))
theorem pick_Choose.calls {w0 : World} {a0 : Int × Int × Int} {a1 : Int} {a2 : Int × Int} {r : (Int × Int) × Int}  (E : pick_Choose.f a0 a1 a2 = some r) :
   Calls Tryz.prog 69 #[.agg #[.int .i64 a0.1,.int .i64 a0.2.1,.int .i64 a0.2.2],.int .i64 a1,.agg #[.int .i64 a2.1,.int .i64 a2.2]] w0 fun e w'=>e = .returned (.tuple #[.agg #[.int .i64 r.1.1,.int .i64 r.1.2],.int .u16 r.2]) ∧ St no w0 w' []:=by
 have H:=St.nil no w0
 unfold pick_Choose.f at E
 refine calls_of_wc (N:=47) (args:=[.agg #[.int .i64 a0.1,.int .i64 a0.2.1,.int .i64 a0.2.2],.int .i64 a1,.agg #[.int .i64 a2.1,.int .i64 a2.2]]) Tryz.func69 z z (by simp) ?_
 obtain ⟨k,_⟩ : ∃ k : Nat,k = 0:=⟨0,rfl⟩
 refine rg (e_ z (y_boxS (cs:=#[.int .i64 a0.1,.int .i64 a0.2.1,.int .i64 a0.2.2]) H z (fun b1 w H=>(e_ z (y_boxS (cs:=#[.int .i64 a2.1,.int .i64 a2.2]) H z (fun b2 w H=>(e_ z (y_allocS e_zr_44 H (fun b3 w H=>(v_ z (sg (.int .u16 0) z) (nl (wc_seq (rg (v_ z (r_loadB (l:=[.int .i64 a0.1,.int .i64 a0.2.1,.int .i64 a0.2.2]) e_ag_24 (H.get 0 z) z z z) ?_))))))))))))))
 obtain ⟨x7,E8,E⟩:=bind_some E
 refine e_ z (y_callL e_en_38 z ((code_Right.calls E8).mono ?_))
 rintro _ w ⟨rfl,K⟩
 have H:=H.app K
 refine ⟨_,z,(v_ z (sg (.int .u16 x7) z) (nl (rg (v_ z (mv (.int .u16 x7) z) (v_ z (r_neq z z) (nl ?_))))))⟩
 refine wc_cond z (fun c9=>?_) (fun c9=>?_)
 · have E:=iT c9 E
   refine rg (v_ z (r_build (cs:=[.int .i64 0,.int .i64 0]) e_bd_44 z) (v_ z (mv (.int .u16 x7) z) (s_ (y_storeBA e_sz_44 H 2 z z z z z z (fun w H=>?_)))))
   have H : St no w0 _ [.blk b1 #[.int .i64 a0.1,.int .i64 a0.2.1,.int .i64 a0.2.2] 24,.blk b2 #[.int .i64 a2.1,.int .i64 a2.2] 44,.blk b3 #[.int .i64 0,.int .i64 0] 44]:=H
   refine v_ z (sg (.int .u16 x7) z) (nl (wc_ret ?_))
   cases E
   exact (r_thn ⟨.inl z,_,tk0 z ⟨resN z (rv_c z e_ag_44 (blk_range (n:=2) (H.get 2 z) z) z (rv_t rv_nil)),z,H.sub0⟩⟩)
 · have E:=iF c9 E
   refine wc_skip (n_thn (wc_seq (rg (v_ z (r_loadB (l:=[.int .i64 a2.1,.int .i64 a2.2]) e_ag_44 (H.get 1 z) z z z) ?_))))
   obtain ⟨x13,E14,E⟩:=bind_some E
   refine e_ z (y_callL e_en_40 z ((pick_Right.calls E14).mono ?_))
   rintro _ w ⟨rfl,K⟩
   have H:=H.app K
   refine ⟨_,z,?_⟩
   have H : St no w0 _ [.blk b1 #[.int .i64 a0.1,.int .i64 a0.2.1,.int .i64 a0.2.2] 24,.blk b2 #[.int .i64 a2.1,.int .i64 a2.2] 44,.blk b3 #[.int .i64 0,.int .i64 0] 44]:=H
   refine v_ z (sg (.int .u16 x13) z) (nl (rg (v_ z (mv (.int .u16 x13) z) (v_ z (r_neq z z) (nl ?_)))))
   refine wc_cond z (fun c15=>?_) (fun c15=>?_)
   · have E:=iT c15 E
     refine rg (v_ z (r_build (cs:=[.int .i64 0,.int .i64 0]) e_bd_44 z) (v_ z (mv (.int .u16 x13) z) (s_ (y_storeBA e_sz_44 H 2 z z z z z z (fun w H=>(v_ z (sg (.int .u16 x13) z) (nl (wc_ret ?_))))))))
     cases E
     exact (r_thn ⟨.inl z,_,tk0 z ⟨resN z (rv_c z e_ag_44 (blk_range (n:=2) (H.get 2 z) z) z (rv_t rv_nil)),z,H.sub0⟩⟩)
   · have E:=iF c15 E
     refine wc_skip (n_thn (rg (v_ z (r_loadB (l:=[.int .i64 a0.1,.int .i64 a0.2.1,.int .i64 a0.2.2]) e_ag_24 (H.get 0 z) z z z) (v_ z (mv (.int .i64 a1) z) (v_ z (r_build (cs:=[.int .i64 a0.1,.int .i64 a0.2.1,.int .i64 a0.2.2,.int .i64 a1]) e_bd_197 (by kernel_rfl)) (e_ z (y_allocS e_zr_197 H (fun b16 w H=>(s_ (y_storeBA e_sz_197 H 3 z z z z z z (fun w H=>(nl ?_))))))))))))
     refine wc_seqJ (fun t w=>∃ (k37 : Nat) (x35 : Int) (t36 : Fr),k37 ≤ k ∧ pick_Choose.j0 a0 a1 a2 x35 = some r ∧ t = upds t36 [(5,pt b2),(6,pt b3),(7,.int .u16 0),(10,pt b16),(1000000,undef)] ∧ St no w0 w [.blk b1 #[.int .i64 a0.1,.int .i64 a0.2.1,.int .i64 a0.2.2] 24,.blk b2 #[.int .i64 x35,.int .i64 a2.2] 44,.blk b3 #[.int .i64 0,.int .i64 0] 44,.blk b16 #[.int .i64 a0.1,.int .i64 a0.2.1,.int .i64 a0.2.2,.int .i64 a1] 197]) ?_ ?_
     · refine rg (v_ z (r_faddr e_fa_44_0 z) (v_ z (r_load e_sc_3 z (blk_cell (H.get 1 z) z)) (v_ z (r_eql z z) (nl ?_))))
       refine wc_cond z (fun c39=>?_) (fun c39=>?_)
       · have E:=iT c39 E
         refine wc_region (v_ z (r_loadB (l:=[.int .i64 a0.1,.int .i64 a0.2.1,.int .i64 a0.2.2,.int .i64 a1]) e_ag_197 (H.get 3 z) z z z) (v_ z (r_build (cs:=[.func (.func 111) #[] #[],.int .i64 3]) e_bd_201 z) (v_ z (r_build (cs:=[.func (.func 112) #[] #[],.int .i64 2]) e_bd_201 z) (v_ z (r_build (cs:=[.func (.func 114) #[] #[],.int .i64 1]) e_bd_201 z) (e_ z (y_bsB (l:=[.func (.func 111) #[] #[],.int .i64 3,.func (.func 112) #[] #[],.int .i64 2,.func (.func 114) #[] #[],.int .i64 1]) e_sl_202 H z (by decide) ⟨z,z,z,z,z,z,z,z,z,trivial⟩ (by decide) (fun b40 w H=>?_)))))))
         refine e_ z (y_J (fun v w=>∃ (k56 : Nat) (x55 : Int),k56 ≤ k ∧ pick_Choose.j1 a0 a1 a2 x55 = some r ∧ v = .int .i64 x55 ∧ St no w0 w [.blk b1 #[.int .i64 a0.1,.int .i64 a0.2.1,.int .i64 a0.2.2] 24,.blk b2 #[.int .i64 a2.1,.int .i64 a2.2] 44,.blk b3 #[.int .i64 0,.int .i64 0] 44,.blk b16 #[.int .i64 a0.1,.int .i64 a0.2.1,.int .i64 a0.2.2,.int .i64 a1] 197,.blk b40 #[.func (.func 111) #[] #[],.int .i64 3,.func (.func 112) #[] #[],.int .i64 2,.func (.func 114) #[] #[],.int .i64 1] 201]) ?_ ?_)
         · refine (y_in 20 [.agg #[.int .i64 a0.1,.int .i64 a0.2.1,.int .i64 a0.2.2,.int .i64 a1],.slice (some ⟨b40,0,none⟩) 3 3] e_en_110 Tryz.func110 z z z z (rg (e_ z (y_boxS (cs:=#[.int .i64 a0.1,.int .i64 a0.2.1,.int .i64 a0.2.2,.int .i64 a1]) H z (fun b58 w H=>(v_ z (sg (.int .i64 0) z) (nl (wc_seq (rg (v_ z (mv (.slice (some ⟨b40,0,none⟩) 3 3) z) (v_ z (rv_eq (r_len e_ul_202 z) (v':=.int .i64 3) z) (v_ z (mv (.int .i64 0) z) (nl (wc_block (wc_unroll (wu (rg (v_ z (rv_eq (v':=.bool true) (r_lss z z) z) (nl (wc_seq (wc_condT z (wc_skip (n_thn (wc_seq (wc_block (rg (v_ z (rv_eq (r_iaddr e_sl_202 z z (by decide) (by decide)) (v':=pt b40) z) (v_ z (r_loadB (l:=[.func (.func 111) #[] #[],.int .i64 3]) e_ag_201 (H.get 4 z) z z z) (e_ z (y_allocS e_zr_201 H (fun b59 w H=>?_)))))))))))))))))))))))))))))))
           have H : St no w0 _ [.blk b1 #[.int .i64 a0.1,.int .i64 a0.2.1,.int .i64 a0.2.2] 24,.blk b2 #[.int .i64 a2.1,.int .i64 a2.2] 44,.blk b3 #[.int .i64 0,.int .i64 0] 44,.blk b16 #[.int .i64 a0.1,.int .i64 a0.2.1,.int .i64 a0.2.2,.int .i64 a1] 197,.blk b40 #[.func (.func 111) #[] #[],.int .i64 3,.func (.func 112) #[] #[],.int .i64 2,.func (.func 114) #[] #[],.int .i64 1] 201,.blk b58 #[.int .i64 a0.1,.int .i64 a0.2.1,.int .i64 a0.2.2,.int .i64 a1] 197,.blk b59 #[.nilFunc,.int .i64 0] 201]:=H
           refine s_ (y_storeBA e_sz_201 H 6 z z z z z z (fun w H=>(nl (rg (v_ z (r_faddr e_fa_201_0 z) (v_ z (r_load e_sc_199 z (blk_cell (H.get 6 z) z)) (v_ z (r_loadB (l:=[.int .i64 a0.1,.int .i64 a0.2.1,.int .i64 a0.2.2,.int .i64 a1]) e_ag_197 (H.get 5 z) z z z) ?_)))))))
           obtain ⟨x60,E61,E⟩:=bind_some E
           refine e_ z (y_callvL z e_en_111 z ((pick_Choose_1.calls E61).mono ?_))
           rintro _ w ⟨rfl,K⟩
           have H:=H.app K
           refine ⟨_,z,(nl ?_)⟩
           refine wc_cond z (fun c62=>?_) (fun c62=>?_)
           · have E:=iT c62 E
             refine rg (v_ z (r_faddr e_fa_201_1 z) (v_ z (r_load e_sc_3 z (blk_cell (H.get 6 z) z)) (v_ z (sg (.int .i64 3) z) (nl (wc_ret ?_)))))
             exact (r_bk (r_thn (r_thn (r_bk (r_thn ⟨.inl z,.int .i64 3,tk0 z ⟨resM z (rv_t rv_nil) z,k,_,Nat.le_refl _,E,z,H.sel [0,1,2,3,4] z z⟩⟩)))))
           · have E:=iF c62 E
             refine wc_skip (n_bk (n_thn (wc_region (v_ z (rv_eq (v':=.int .i64 1) (r_add z z) z) (v_ z (mv (.int .i64 1) z) (wl_nil (n_thn (wu (rg (v_ z (rv_eq (v':=.bool true) (r_lss z z) z) (nl (wc_seq (wc_condT z (wc_skip (n_thn (wc_seq (wc_block (rg (v_ z (rv_eq (r_iaddr e_sl_202 z z (by decide) (by decide)) (v':=.pointer (some ⟨b40,2,none⟩)) z) (v_ z (r_loadB (l:=[.func (.func 112) #[] #[],.int .i64 2]) e_ag_201 (H.get 4 z) z z z) (e_ z (y_allocS e_zr_201 H (fun b63 w H=>(s_ (y_storeBA e_sz_201 H 7 z z z z z z (fun w H=>(nl (rg (v_ z (r_faddr e_fa_201_0 z) (v_ z (r_load e_sc_199 z (blk_cell (H.get 7 z) z)) (v_ z (r_loadB (l:=[.int .i64 a0.1,.int .i64 a0.2.1,.int .i64 a0.2.2,.int .i64 a1]) e_ag_197 (H.get 5 z) z z z) ?_)))))))))))))))))))))))))))))))
             obtain ⟨x64,E65,E⟩:=bind_some E
             refine e_ z (y_callvL z e_en_112 z ((pick_Choose_2.calls E65).mono ?_))
             rintro _ w ⟨rfl,K⟩
             have H:=H.app K
             refine ⟨_,z,(nl ?_)⟩
             refine wc_cond z (fun c66=>?_) (fun c66=>?_)
             · have E:=iT c66 E
               refine rg ?_
               have H : St no w0 _ [.blk b1 #[.int .i64 a0.1,.int .i64 a0.2.1,.int .i64 a0.2.2] 24,.blk b2 #[.int .i64 a2.1,.int .i64 a2.2] 44,.blk b3 #[.int .i64 0,.int .i64 0] 44,.blk b16 #[.int .i64 a0.1,.int .i64 a0.2.1,.int .i64 a0.2.2,.int .i64 a1] 197,.blk b40 #[.func (.func 111) #[] #[],.int .i64 3,.func (.func 112) #[] #[],.int .i64 2,.func (.func 114) #[] #[],.int .i64 1] 201,.blk b58 #[.int .i64 a0.1,.int .i64 a0.2.1,.int .i64 a0.2.2,.int .i64 a1] 197,.blk b59 #[.func (.func 111) #[] #[],.int .i64 3] 201,.blk b63 #[.func (.func 112) #[] #[],.int .i64 2] 201]:=H
               refine v_ z (r_faddr e_fa_201_1 z) (v_ z (r_load e_sc_3 z (blk_cell (H.get 7 z) z)) (v_ z (sg (.int .i64 2) z) (nl (wc_ret ?_))))
               exact (r_bk (r_thn (r_thn (r_bk (r_thn ⟨.inl z,.int .i64 2,tk0 z ⟨resM z (rv_t rv_nil) z,k,_,Nat.le_refl _,E,z,H.sel [0,1,2,3,4] z z⟩⟩)))))
             · have E:=iF c66 E
               refine wc_skip (n_bk (n_thn (wc_region ?_)))
               have H : St no w0 _ [.blk b1 #[.int .i64 a0.1,.int .i64 a0.2.1,.int .i64 a0.2.2] 24,.blk b2 #[.int .i64 a2.1,.int .i64 a2.2] 44,.blk b3 #[.int .i64 0,.int .i64 0] 44,.blk b16 #[.int .i64 a0.1,.int .i64 a0.2.1,.int .i64 a0.2.2,.int .i64 a1] 197,.blk b40 #[.func (.func 111) #[] #[],.int .i64 3,.func (.func 112) #[] #[],.int .i64 2,.func (.func 114) #[] #[],.int .i64 1] 201,.blk b58 #[.int .i64 a0.1,.int .i64 a0.2.1,.int .i64 a0.2.2,.int .i64 a1] 197,.blk b59 #[.func (.func 111) #[] #[],.int .i64 3] 201,.blk b63 #[.func (.func 112) #[] #[],.int .i64 2] 201]:=H
               refine v_ z (rv_eq (v':=.int .i64 2) (r_add z z) z) (v_ z (mv (.int .i64 2) z) (wl_nil (n_thn (wu (rg (v_ z (rv_eq (v':=.bool true) (r_lss z z) z) (nl (wc_seq (wc_condT z (wc_skip (n_thn (wc_seq (wc_block (rg (v_ z (rv_eq (r_iaddr e_sl_202 z z (by decide) (by decide)) (v':=.pointer (some ⟨b40,4,none⟩)) z) (v_ z (r_loadB (l:=[.func (.func 114) #[] #[],.int .i64 1]) e_ag_201 (H.get 4 z) z z z) (e_ z (y_allocS e_zr_201 H (fun b67 w H=>(s_ (y_storeBA e_sz_201 H 8 z z z z z z (fun w H=>(nl (rg (v_ z (r_faddr e_fa_201_0 z) (v_ z (r_load e_sc_199 z (blk_cell (H.get 8 z) z)) (v_ z (r_loadB (l:=[.int .i64 a0.1,.int .i64 a0.2.1,.int .i64 a0.2.2,.int .i64 a1]) e_ag_197 (H.get 5 z) z z z) ?_)))))))))))))))))))))))))))
               obtain ⟨x68,E69,E⟩:=bind_some E
               refine e_ z (y_callvL z e_en_114 z ((pick_Choose_3.calls E69).mono ?_))
               rintro _ w ⟨rfl,K⟩
               have H:=H.app K
               refine ⟨_,z,(nl ?_)⟩
               refine wc_cond z (fun c70=>?_) (fun c70=>?_)
               · have E:=iT c70 E
                 refine rg (v_ z (r_faddr e_fa_201_1 z) (v_ z (r_load e_sc_3 z (blk_cell (H.get 8 z) z)) (v_ z (sg (.int .i64 1) z) (nl (wc_ret ?_)))))
                 exact (r_bk (r_thn (r_thn (r_bk (r_thn ⟨.inl z,.int .i64 1,tk0 z ⟨resM z (rv_t rv_nil) z,k,_,Nat.le_refl _,E,z,H.sel [0,1,2,3,4] z z⟩⟩)))))
               · have E:=iF c70 E
                 refine wc_skip (n_bk (n_thn (wc_region (v_ z (rv_eq (v':=.int .i64 3) (r_add z z) z) (v_ z (mv (.int .i64 3) z) (wl_nil (n_thn (wu (rg (v_ z (rv_eq (v':=.bool false) (r_lss z z) z) (nl (wc_seq (wc_condF z (wc_exit (x_thn (x_thn (x_bk (n_thn (rg (v_ z (sg (.int .i64 0) z) (nl (wc_ret ?_))))))))))))))))))))))
                 exact ⟨.inl z,.int .i64 0,tk0 z ⟨resM z (rv_t rv_nil) z,k,_,Nat.le_refl _,E,z,H.sel [0,1,2,3,4] z z⟩⟩
         rintro _ w ⟨k56,x55,hk57,E,hv_,H⟩
         have hv_:=hv_.symm
         subst hv_
         unfold pick_Choose.j1 at E
         refine v_ z (r_faddr e_fa_44_0 z) (s_ (y_storeB e_sz_3 H 1 z z z z z (fun w H=>(wl_nil ?_))))
         exact ⟨k56,_,_,by omega,E,upds_eq ⟨z,z,z,z,z,trivial⟩,H.sel [0,1,2,3] z z⟩
       · have E:=iF c39 E
         refine wc_skip ?_
         exact ⟨k,_,_,Nat.le_refl _,E,upds_eq ⟨z,z,z,z,z,trivial⟩,H⟩
     rintro t w ⟨k37,x35,t36,hk38,E,rfl,H⟩
     unfold pick_Choose.j0 at E
     refine wc_seq (rg (v_ z (r_faddr e_fa_44_1 z) (v_ z (r_load e_sc_3 z (blk_cell (H.get 1 z) z)) (v_ z (r_eql z z) (nl ?_)))))
     refine wc_cond z (fun c71=>?_) (fun c71=>?_)
     · have E:=iT c71 E
       refine wc_region (v_ z (r_loadB (l:=[.int .i64 a0.1,.int .i64 a0.2.1,.int .i64 a0.2.2,.int .i64 a1]) e_ag_197 (H.get 3 z) z z z) (v_ z (r_build (cs:=[.func (.func 115) #[] #[],.int .i64 1]) e_bd_201 z) (v_ z (r_build (cs:=[.func (.func 116) #[] #[],.int .i64 2]) e_bd_201 z) (v_ z (r_build (cs:=[.func (.func 117) #[] #[],.int .i64 3]) e_bd_201 z) (e_ z (y_bsB (l:=[.func (.func 115) #[] #[],.int .i64 1,.func (.func 116) #[] #[],.int .i64 2,.func (.func 117) #[] #[],.int .i64 3]) e_sl_202 H z (by decide) ⟨z,z,z,z,z,z,z,z,z,trivial⟩ (by decide) (fun b72 w H=>?_)))))))
       refine e_ z (y_J (fun v w=>∃ (k88 : Nat) (x87 : Int),k88 ≤ k37 ∧ pick_Choose.j2 x35 x87 = some r ∧ v = .int .i64 x87 ∧ St no w0 w [.blk b1 #[.int .i64 a0.1,.int .i64 a0.2.1,.int .i64 a0.2.2] 24,.blk b2 #[.int .i64 x35,.int .i64 a2.2] 44,.blk b3 #[.int .i64 0,.int .i64 0] 44,.blk b16 #[.int .i64 a0.1,.int .i64 a0.2.1,.int .i64 a0.2.2,.int .i64 a1] 197,.blk b72 #[.func (.func 115) #[] #[],.int .i64 1,.func (.func 116) #[] #[],.int .i64 2,.func (.func 117) #[] #[],.int .i64 3] 201]) ?_ ?_)
       · refine (y_in 20 [.agg #[.int .i64 a0.1,.int .i64 a0.2.1,.int .i64 a0.2.2,.int .i64 a1],.slice (some ⟨b72,0,none⟩) 3 3] e_en_110 Tryz.func110 z z z z (rg (e_ z (y_boxS (cs:=#[.int .i64 a0.1,.int .i64 a0.2.1,.int .i64 a0.2.2,.int .i64 a1]) H z (fun b90 w H=>(v_ z (sg (.int .i64 0) z) (nl (wc_seq (rg (v_ z (mv (.slice (some ⟨b72,0,none⟩) 3 3) z) (v_ z (rv_eq (r_len e_ul_202 z) (v':=.int .i64 3) z) (v_ z (mv (.int .i64 0) z) (nl (wc_block (wc_unroll (wu (rg (v_ z (rv_eq (v':=.bool true) (r_lss z z) z) (nl (wc_seq (wc_condT z (wc_skip (n_thn (wc_seq (wc_block (rg (v_ z (rv_eq (r_iaddr e_sl_202 z z (by decide) (by decide)) (v':=pt b72) z) (v_ z (r_loadB (l:=[.func (.func 115) #[] #[],.int .i64 1]) e_ag_201 (H.get 4 z) z z z) (e_ z (y_allocS e_zr_201 H (fun b91 w H=>(s_ (y_storeBA e_sz_201 H 6 z z z z z z (fun w H=>(nl (rg (v_ z (r_faddr e_fa_201_0 z) (v_ z (r_load e_sc_199 z (blk_cell (H.get 6 z) z)) (v_ z (r_loadB (l:=[.int .i64 a0.1,.int .i64 a0.2.1,.int .i64 a0.2.2,.int .i64 a1]) e_ag_197 (H.get 5 z) z z z) ?_)))))))))))))))))))))))))))))))))))))))
         obtain ⟨x92,E93,E⟩:=bind_some E
         refine e_ z (y_callvL z e_en_115 z ((pick_Choose_4.calls E93).mono ?_))
         rintro _ w ⟨rfl,K⟩
         have H:=H.app K
         refine ⟨_,z,(nl ?_)⟩
         refine wc_cond z (fun c94=>?_) (fun c94=>?_)
         · have E:=iT c94 E
           refine rg ?_
           have H : St no w0 _ [.blk b1 #[.int .i64 a0.1,.int .i64 a0.2.1,.int .i64 a0.2.2] 24,.blk b2 #[.int .i64 x35,.int .i64 a2.2] 44,.blk b3 #[.int .i64 0,.int .i64 0] 44,.blk b16 #[.int .i64 a0.1,.int .i64 a0.2.1,.int .i64 a0.2.2,.int .i64 a1] 197,.blk b72 #[.func (.func 115) #[] #[],.int .i64 1,.func (.func 116) #[] #[],.int .i64 2,.func (.func 117) #[] #[],.int .i64 3] 201,.blk b90 #[.int .i64 a0.1,.int .i64 a0.2.1,.int .i64 a0.2.2,.int .i64 a1] 197,.blk b91 #[.func (.func 115) #[] #[],.int .i64 1] 201]:=H
           refine v_ z (r_faddr e_fa_201_1 z) (v_ z (r_load e_sc_3 z (blk_cell (H.get 6 z) z)) (v_ z (sg (.int .i64 1) z) (nl (wc_ret ?_))))
           exact (r_bk (r_thn (r_thn (r_bk (r_thn ⟨.inl z,.int .i64 1,tk0 z ⟨resM z (rv_t rv_nil) z,k37,_,Nat.le_refl _,E,z,H.sel [0,1,2,3,4] z z⟩⟩)))))
         · have E:=iF c94 E
           refine wc_skip (n_bk (n_thn (wc_region ?_)))
           have H : St no w0 _ [.blk b1 #[.int .i64 a0.1,.int .i64 a0.2.1,.int .i64 a0.2.2] 24,.blk b2 #[.int .i64 x35,.int .i64 a2.2] 44,.blk b3 #[.int .i64 0,.int .i64 0] 44,.blk b16 #[.int .i64 a0.1,.int .i64 a0.2.1,.int .i64 a0.2.2,.int .i64 a1] 197,.blk b72 #[.func (.func 115) #[] #[],.int .i64 1,.func (.func 116) #[] #[],.int .i64 2,.func (.func 117) #[] #[],.int .i64 3] 201,.blk b90 #[.int .i64 a0.1,.int .i64 a0.2.1,.int .i64 a0.2.2,.int .i64 a1] 197,.blk b91 #[.func (.func 115) #[] #[],.int .i64 1] 201]:=H
           refine v_ z (rv_eq (v':=.int .i64 1) (r_add z z) z) (v_ z (mv (.int .i64 1) z) (wl_nil (n_thn (wu (rg (v_ z (rv_eq (v':=.bool true) (r_lss z z) z) (nl (wc_seq (wc_condT z (wc_skip (n_thn (wc_seq (wc_block (rg (v_ z (rv_eq (r_iaddr e_sl_202 z z (by decide) (by decide)) (v':=.pointer (some ⟨b72,2,none⟩)) z) (v_ z (r_loadB (l:=[.func (.func 116) #[] #[],.int .i64 2]) e_ag_201 (H.get 4 z) z z z) (e_ z (y_allocS e_zr_201 H (fun b95 w H=>(s_ (y_storeBA e_sz_201 H 7 z z z z z z (fun w H=>(nl (rg (v_ z (r_faddr e_fa_201_0 z) (v_ z (r_load e_sc_199 z (blk_cell (H.get 7 z) z)) (v_ z (r_loadB (l:=[.int .i64 a0.1,.int .i64 a0.2.1,.int .i64 a0.2.2,.int .i64 a1]) e_ag_197 (H.get 5 z) z z z) ?_)))))))))))))))))))))))))))
           obtain ⟨x96,E97,E⟩:=bind_some E
           refine e_ z (y_callvL z e_en_116 z ((pick_Choose_5.calls E97).mono ?_))
           rintro _ w ⟨rfl,K⟩
           have H:=H.app K
           refine ⟨_,z,(nl ?_)⟩
           refine wc_cond z (fun c98=>?_) (fun c98=>?_)
           · have E:=iT c98 E
             refine rg (v_ z (r_faddr e_fa_201_1 z) (v_ z (r_load e_sc_3 z (blk_cell (H.get 7 z) z)) (v_ z (sg (.int .i64 2) z) (nl (wc_ret ?_)))))
             exact (r_bk (r_thn (r_thn (r_bk (r_thn ⟨.inl z,.int .i64 2,tk0 z ⟨resM z (rv_t rv_nil) z,k37,_,Nat.le_refl _,E,z,H.sel [0,1,2,3,4] z z⟩⟩)))))
           · have E:=iF c98 E
             refine wc_skip (n_bk (n_thn (wc_region (v_ z (rv_eq (v':=.int .i64 2) (r_add z z) z) (v_ z (mv (.int .i64 2) z) (wl_nil (n_thn (wu (rg (v_ z (rv_eq (v':=.bool true) (r_lss z z) z) (nl (wc_seq (wc_condT z (wc_skip (n_thn (wc_seq (wc_block (rg (v_ z (rv_eq (r_iaddr e_sl_202 z z (by decide) (by decide)) (v':=.pointer (some ⟨b72,4,none⟩)) z) (v_ z (r_loadB (l:=[.func (.func 117) #[] #[],.int .i64 3]) e_ag_201 (H.get 4 z) z z z) (e_ z (y_allocS e_zr_201 H (fun b99 w H=>(s_ (y_storeBA e_sz_201 H 8 z z z z z z (fun w H=>(nl (rg ?_))))))))))))))))))))))))))))
             have H : St no w0 _ [.blk b1 #[.int .i64 a0.1,.int .i64 a0.2.1,.int .i64 a0.2.2] 24,.blk b2 #[.int .i64 x35,.int .i64 a2.2] 44,.blk b3 #[.int .i64 0,.int .i64 0] 44,.blk b16 #[.int .i64 a0.1,.int .i64 a0.2.1,.int .i64 a0.2.2,.int .i64 a1] 197,.blk b72 #[.func (.func 115) #[] #[],.int .i64 1,.func (.func 116) #[] #[],.int .i64 2,.func (.func 117) #[] #[],.int .i64 3] 201,.blk b90 #[.int .i64 a0.1,.int .i64 a0.2.1,.int .i64 a0.2.2,.int .i64 a1] 197,.blk b91 #[.func (.func 115) #[] #[],.int .i64 1] 201,.blk b95 #[.func (.func 116) #[] #[],.int .i64 2] 201,.blk b99 #[.func (.func 117) #[] #[],.int .i64 3] 201]:=H
             refine v_ z (r_faddr e_fa_201_0 z) (v_ z (r_load e_sc_199 z (blk_cell (H.get 8 z) z)) (v_ z (r_loadB (l:=[.int .i64 a0.1,.int .i64 a0.2.1,.int .i64 a0.2.2,.int .i64 a1]) e_ag_197 (H.get 5 z) z z z) ?_))
             obtain ⟨x100,E101,E⟩:=bind_some E
             refine e_ z (y_callvL z e_en_117 z ((pick_Choose_6.calls E101).mono ?_))
             rintro _ w ⟨rfl,K⟩
             have H:=H.app K
             refine ⟨_,z,(nl ?_)⟩
             refine wc_cond z (fun c102=>?_) (fun c102=>?_)
             · have E:=iT c102 E
               refine rg (v_ z (r_faddr e_fa_201_1 z) (v_ z (r_load e_sc_3 z (blk_cell (H.get 8 z) z)) (v_ z (sg (.int .i64 3) z) (nl (wc_ret ?_)))))
               exact (r_bk (r_thn (r_thn (r_bk (r_thn ⟨.inl z,.int .i64 3,tk0 z ⟨resM z (rv_t rv_nil) z,k37,_,Nat.le_refl _,E,z,H.sel [0,1,2,3,4] z z⟩⟩)))))
             · have E:=iF c102 E
               refine wc_skip (n_bk (n_thn (wc_region (v_ z (rv_eq (v':=.int .i64 3) (r_add z z) z) (v_ z (mv (.int .i64 3) z) (wl_nil (n_thn (wu (rg (v_ z (rv_eq (v':=.bool false) (r_lss z z) z) (nl (wc_seq (wc_condF z (wc_exit (x_thn (x_thn (x_bk (n_thn (rg (v_ z (sg (.int .i64 0) z) (nl (wc_ret ?_))))))))))))))))))))))
               exact ⟨.inl z,.int .i64 0,tk0 z ⟨resM z (rv_t rv_nil) z,k37,_,Nat.le_refl _,E,z,H.sel [0,1,2,3,4] z z⟩⟩
       rintro _ w ⟨k88,x87,hk89,E,hv_,H⟩
       have hv_:=hv_.symm
       subst hv_
       unfold pick_Choose.j2 at E
       refine v_ z (r_faddr e_fa_44_1 z) (s_ (y_storeB e_sz_3 H 1 z z z z z (fun w H=>(nl (rg (v_ z (r_loadB (l:=[.int .i64 x35,.int .i64 x87]) e_ag_44 (H.get 1 z) z z z) (s_ (y_storeBA e_sz_44 H 2 z z z z z z (fun w H=>(v_ z (sg (.int .u16 0) z) (nl (wc_ret ?_))))))))))))
       cases E
       exact ⟨.inl z,_,tk0 z ⟨resN z (rv_c z e_ag_44 (blk_range (n:=2) (H.get 2 z) z) z (rv_t rv_nil)),z,H.sub0⟩⟩
     · have E:=iF c71 E
       refine wc_skip (n_thn (rg (v_ z (r_loadB (l:=[.int .i64 x35,.int .i64 a2.2]) e_ag_44 (H.get 1 z) z z z) (s_ (y_storeBA e_sz_44 H 2 z z z z z z (fun w H=>(v_ z (sg (.int .u16 0) z) (nl (wc_ret ?_)))))))))
       cases E
       exact ⟨.inl z,_,tk0 z ⟨resN z (rv_c z e_ag_44 (blk_range (n:=2) (H.get 2 z) z) z (rv_t rv_nil)),z,H.sub0⟩⟩
end Go.Proofs.YtkndgkbgbmhjoaaGreatDoor.Gw
