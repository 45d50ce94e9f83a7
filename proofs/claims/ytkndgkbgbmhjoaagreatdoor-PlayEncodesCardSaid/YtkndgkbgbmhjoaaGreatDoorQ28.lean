/- The card of the law that what a desk encodes is read back from what it tells: a part of its proof. The conditions are those of the statement. -/
import Derived.Test.YtkndgkbgbmhjoaaGreatDoorQ26
import Derived.Test.YtkndgkbgbmhjoaaGreatDoorQ27
import Derived.Test.YtkndgkbgbmhjoaaGreatDoorQ25
namespace Go.Proofs.YtkndgkbgbmhjoaaGreatDoor.Gw
open Go Go.RowKit
set_option linter.unusedVariables false
set_option linter.unusedSimpArgs false
set_option linter.unusedSectionVars false
variable [LibO]
set_option linter.unnecessarySimpa false
set_option maxRecDepth 100000
set_option maxHeartbeats 4000000
open Go.IntKind (i8 i16 i32 i64 u8 u16 u32 u64)
def ref11_Encode.l0 : Nat → List Int → Int → (List Int × Bool) → List (Int) → Int → Option (List Int × Int)
 | 0,_,_,_,_,_=>none
 | k + 1,a1,x10,x18,l36,x37=>bif decide (x37 < x10) then ((ref05_Coef.f x18.1 x37).bind fun x50=>grd (decide ((l36.length + ([x50]).length) * 1 ≤ 140737488355328)) (ref11_Encode.l0 k a1 x10 x18 (l36 ++ ([x50])) (i64.wrap (x37 + 1)))) else (grd (decide ((l36.length + a1.length) * 1 ≤ 140737488355328)) (some (l36 ++ a1,0)))
def ref11_Encode.f (k : Nat) (a0 : Int × Int × Int) (a1 : List Int) : Option (List Int × Int):=(ref10_Right.f (a0.1,a0.2.1,a0.2.2)).bind fun x5=>bif !decide (x5 = 0) then (some (([] : List (Int)),10)) else (bif !decide ((a1.length : Int) = a0.2.1) then (some (([] : List (Int)),12)) else ((ref10_Space.f (a0.1,a0.2.1,a0.2.2)).bind fun x10=>(ref05_Up.f k a1 x10).bind fun x12=>(ref10_Generator.f k (a0.1,a0.2.1,a0.2.2)).bind fun x15=>(ref06_Mod.f k x12 x15).bind fun x18=>ref11_Encode.l0 k a1 x10 x18 ([] : List (Int)) 0))
theorem ref11_Encode.calls {w0 : World} {k : Nat} {a0 : Int × Int × Int} {a1 : List Int} {v1_ : Value} {r : List Int × Int} (h1 : Rd (.of (.int .u8)) w0 (Ol no w0) v1_ a1) (E : ref11_Encode.f k a0 a1 = some r) :
   Calls Tryz.prog 6 #[.agg #[.int .i64 a0.1,.int .i64 a0.2.1,.int .i64 a0.2.2],v1_] w0 fun e w'=>∃ (u0 : Value),e = .returned (.tuple #[u0,.int .i64 r.2]) ∧ St no w0 w' [.own (.int .u8) 5 u0 r.1]:=by
 have H:=St.nil no w0
 unfold ref11_Encode.f at E
 refine calls_of_wc (N:=44) (args:=[.agg #[.int .i64 a0.1,.int .i64 a0.2.1,.int .i64 a0.2.2],v1_]) Tryz.func6 z z (by simp) ?_
 refine rg (e_ z (y_boxS (cs:=#[.int .i64 a0.1,.int .i64 a0.2.1,.int .i64 a0.2.2]) H z (fun b1 w H=>(v_ z (sg (.slice none 0 0) z) (v_ z (sg (.int .i64 0) z) (nl (wc_seq (rg (v_ z (r_loadB (l:=[.int .i64 a0.1,.int .i64 a0.2.1,.int .i64 a0.2.2]) e_ag_24 (H.get 0 z) z z z) ?_)))))))))
 obtain ⟨x5,E6,E⟩:=bind_some E
 refine e_ z (y_callL l_en_11 z ((ref10_Right.calls E6).mono ?_))
 rintro _ w ⟨rfl,K⟩
 have H:=H.app K
 refine ⟨_,z,(v_ z (r_neq z z) (nl ?_))⟩
 refine wc_cond z (fun c7=>?_) (fun c7=>?_)
 · have E:=iT c7 E
   refine rg (v_ z (sg (.slice none 0 0) z) (v_ z (sg (.int .i64 10) z) (nl (wc_ret ?_))))
   have H:=H.nilOwn (.int .u8) 5
   cases E
   exact (r_thn ⟨.inl z,_,tk0 z ⟨resN z (rv_t (rv_t rv_nil)),_,z,H.sub1 1 z⟩⟩)
 · have E:=iF c7 E
   refine wc_skip (n_thn (wc_seq (rg (v_ z (mv v1_ z) (v_ z (r_lenR e_ul_22 (H.rd h1) z) (v_ z (r_faddr e_fa_24_1 z) (v_ z (r_load e_sc_3 z (blk_cell (H.get 0 z) z)) (v_ z (r_neq z z) (nl ?_)))))))))
   refine wc_cond z (fun c9=>?_) (fun c9=>?_)
   · have E:=iT c9 E
     refine rg (v_ z (sg (.slice none 0 0) z) (v_ z (sg (.int .i64 12) z) (nl (wc_ret ?_))))
     have H:=H.nilOwn (.int .u8) 5
     cases E
     exact (r_thn ⟨.inl z,_,tk0 z ⟨resN z (rv_t (rv_t rv_nil)),_,z,H.sub1 1 z⟩⟩)
   · have E:=iF c9 E
     refine wc_skip (n_thn (rg (v_ z (r_loadB (l:=[.int .i64 a0.1,.int .i64 a0.2.1,.int .i64 a0.2.2]) e_ag_24 (H.get 0 z) z z z) ?_)))
     obtain ⟨x10,E11,E⟩:=bind_some E
     refine e_ z (y_callL l_en_12 z ((ref10_Space.calls E11).mono ?_))
     rintro _ w ⟨rfl,K⟩
     have H:=H.app K
     refine ⟨_,z,(v_ z (sg (.int .i64 x10) z) (nl (wc_seq (wc_drawnS (ds:=[]) e_mo H z z ?_))))⟩
     have H:=H.drew
     refine wt 0 (tf 1 11) z z z (by kernel_rfl) H (fun w H=>(mv v1_ z)) (wt 1 (tf 2 11) z z z (by kernel_rfl) H (fun w H=>(mv (.int .i64 x10) z)) (wt 3 #[true,true,false,true,false,false,false,false,false,false,false] z z z (by kernel_rfl) H (fun w H=>(r_loadB (l:=[.int .i64 a0.1,.int .i64 a0.2.1,.int .i64 a0.2.2]) e_ag_24 (H.get 0 z) z z z)) ?_))
     obtain ⟨x12,E13,E⟩:=bind_some E
     refine wa_one (i:=2) (l':=(tf 4 11)) z z z (by kernel_rfl) (y_callL l_en_14 z ((ref05_Up.calls (H.arg (H.rd h1)) E13).mono ?_))
     rintro _ w ⟨v14,rfl,K⟩
     have H:=H.app K
     refine ⟨_,z,⟨fun _=>H.sel [0] z z,?_⟩⟩
     obtain ⟨x15,E16,E⟩:=bind_some E
     refine wa_one (i:=4) (l':=(tf 5 11)) z z z (by kernel_rfl) (y_callL l_en_15 z ((ref10_Generator.calls E16).mono ?_))
     rintro _ w ⟨v17,rfl,K⟩
     have H:=H.app K
     refine ⟨_,z,⟨fun _=>H.sel [0] z z,?_⟩⟩
     have H : St no w0 _ [.blk b1 #[.int .i64 a0.1,.int .i64 a0.2.1,.int .i64 a0.2.2] 24,.own (.int .u8) 5 v14 x12,.own (.int .u8) 5 v17 x15]:=H
     obtain ⟨x18,E19,E⟩:=bind_some E
     refine wa_one (i:=5) (l':=(tf 6 11)) z z z (by kernel_rfl) (y_callL l_en_13 z ((ref06_Mod.calls (H.own 1 z (own_rd (H.get 1 z))) (H.own 2 z (own_rd (H.get 2 z))) E19).mono ?_))
     rintro _ w ⟨v20,rfl,K⟩
     have H:=H.app K
     refine ⟨_,z,⟨fun _=>H.sel [0] z z,(wt 6 (tf 7 11) z z z (by kernel_rfl) (H.sel [0] z z) (fun w H=>(r_move)) (wt 7 (tf 8 11) z z z (by kernel_rfl) (H.sel [0] z z) (fun w H=>(r_extract z z)) (wt 8 (tf 9 11) z z z (by kernel_rfl) (H.sel [0] z z) (fun w H=>(r_extract z z)) (wa_oneV (i:=9) (l':=(tf 10 11)) z z z (by kernel_rfl) ((H.sel [0] z z)) (sg v20 z) (wt 10 (tf 11 11) z z z (by kernel_rfl) (H.sel [0] z z) (fun w H=>(sg (.bool x18.2) z)) (wa_done (by kernel_rfl) (n_thn (rg (v_ z (sg (.slice none 0 0) z) (nl (wc_seq (rg (v_ z (sg (.int .i64 0) z) (nl (wc_block ?_)))))))))))))))⟩⟩
     have H:=H.nilOwn (.int .u8) 5
     refine wc_loop (fun kk t w=>∃ (l36 : List (Int)) (x37 : Int) (v35 : Value) (t47 : Fr),kk ≤ k ∧ ref11_Encode.l0 kk a1 x10 x18 l36 x37 = some r ∧ t = upds t47 [(1,v1_),(4,.slice none 0 0),(5,.int .i64 0),(6,.int .i64 x10),(7,v20),(9,v35),(10,.int .i64 x37),(1000000,undef)] ∧ St no w0 w [.blk b1 #[.int .i64 a0.1,.int .i64 a0.2.1,.int .i64 a0.2.2] 24,.own (.int .u8) 5 v14 x12,.own (.int .u8) 5 v17 x15,.own (.int .u8) 5 v20 x18.1,.own (.int .u8) 5 v35 l36]) k ?_ ?_
     · exact ⟨_,_,_,_,Nat.le_refl _,E,upds_eq ⟨z,z,z,z,z,z,z,z,trivial⟩,H⟩
     rintro kk t w ⟨l36,x37,v35,t47,hk46,E,rfl,H⟩
     obtain ⟨k45,rfl⟩ | rfl : (∃ k',kk = k' + 1) ∨ kk = 0:=by cases kk; exact .inr rfl; exact .inl ⟨_,rfl⟩
     rotate_left
     · cases E
     rw [ref11_Encode.l0] at E
     refine wc_seq (rg (v_ z (mv (.int .i64 x37) z) (v_ z (mv (.int .i64 x10) z) (v_ z (r_lss z z) (nl ?_)))))
     refine wc_cond z (fun c49=>?_) (fun c49=>?_)
     · have E:=iT c49 E
       refine wc_skip (n_thn (wc_seq (wc_block (wc_region (v_ z (mv v35 z) (v_ z (mv v20 z) (v_ z (mv (.int .i64 x37) z) ?_)))))))
       obtain ⟨x50,E51,E⟩:=bind_some E
       refine e_ z (y_callL l_en_16 z ((ref05_Coef.calls (H.own 3 z (own_rd (H.get 3 z))) E51).mono ?_))
       rintro _ w ⟨rfl,K⟩
       have H:=H.app K
       refine ⟨_,z,(e_ z (y_bsL (e:=(.int .u8)) (l:=[x50]) e_sl_22 H z (by decide) ⟨z,z,trivial⟩ (by decide) (fun v52 w H=>?_)))⟩
       obtain ⟨g54,E⟩:=grd_some E
       refine e_ z (y_app e_sl_22 H 4 z (own_rd (H.get 5 z)) z z (by omega) (by unfold maxLen; omega) (fun v53 w H=>(v_ z (sg v53 z) (wl_nil (n_bk (n_thn (wc_region (v_ z (mv (.int .i64 x37) z) (v_ z (r_add z z) (v_ z (sg (.int .i64 (i64.wrap (x37 + 1))) z) (wl_nil ?_)))))))))))
       exact ⟨k45,Nat.lt_succ_self _,_,_,_,_,Nat.le_of_succ_le hk46,E,upds_eq ⟨z,z,z,z,z,z,z,z,trivial⟩,H.sel [0,1,2,3,4] z z⟩
     · have E:=iF c49 E
       refine wc_exit (x_thn (x_thn (x_bk (n_thn (rg (v_ z (mv v35 z) (v_ z (mv v1_ z) ?_)))))))
       obtain ⟨g56,E⟩:=grd_some E
       refine e_ z (y_app e_sl_22 H 4 z (H.rd h1) z z (by omega) (by unfold maxLen; omega) (fun v55 w H=>(v_ z (sg v55 z) (v_ z (sg (.int .i64 0) z) (nl (wc_ret ?_))))))
       cases E
       exact ⟨.inl z,_,tk0 z ⟨resN z (rv_t (rv_t rv_nil)),_,z,H.sub1 4 z⟩⟩
def law24_known.f (k : Nat)  : Option (Bool):=(play_Run.f k l_str4).bind fun x1=>bif decide (x1 = l_str5) then ((play_Run.f k l_str6).bind fun x4=>some (decide (x4 = l_str7))) else (some false)
theorem law24_known.calls {w0 : World} {k : Nat} {r : Bool} (hf : (Rs.env ).inv w0) (E : law24_known.f k  = some r) :
   Calls Tryz.prog 8 #[] w0 fun e w'=>e = .returned (.bool r) ∧ St (Rs.env ).fp w0 w' [.gt,.lv]:=by
 have H:=env_open hf
 unfold law24_known.f at E
 refine calls_of_wc (N:=7) (args:=[]) Tryz.func8 z z (by simp) ?_
 refine rg (v_ z (sg (.bool false) z) (nl (rg ?_)))
 obtain ⟨x1,E2,E⟩:=bind_some E
 refine e_ z (y_callL l_en_9 z ((play_Run.calls (env_inv (H.get 0 z) (H.get 1 z)) E2).mono ?_))
 rintro _ w ⟨rfl,K⟩
 have H:=H.appE 0 1 z z (by decide) K
 refine ⟨_,z,(v_ z (r_seql z z) (v_ z (mv (.bool (decide (x1 = l_str5))) z) ?_))⟩
 rcases Bool.eq_false_or_eq_true (decide (x1 = l_str5)) with c3 | c3
 · have E:=iT c3 E
   obtain ⟨x4,E5,E⟩:=bind_some E
   refine wl_on z c3 z (y_callL l_en_9 z ((play_Run.calls (env_inv (H.get 0 z) (H.get 1 z)) E5).mono ?_))
   rintro _ w ⟨rfl,K⟩
   have H:=H.appE 0 1 z z (by decide) K
   refine ⟨_,z,(on_ c3 z z (r_seql z z) (v_ z (pT (.bool (decide (x4 = l_str7))) z z c3) (v_ z (sg (.bool (decide (x4 = l_str7))) z) (nl (wc_ret ?_)))))⟩
   cases E
   exact ⟨.inl z,_,tk0 z ⟨resN z (rv_t rv_nil),z,H.sub2 0 1 z z z⟩⟩
 · have E:=iF c3 E
   refine off_ c3 z z z (off_ c3 z z z (v_ z (pF (.bool false) z z c3) (v_ z (sg (.bool false) z) (nl (wc_ret ?_)))))
   cases E
   exact ⟨.inl z,_,tk0 z ⟨resN z (rv_t rv_nil),z,H.sub2 0 1 z z z⟩⟩
def law24_PlayEncodes.f (k : Nat) (a0 : Int) (a1 : Int) (a2 : Int) (a3 : List Int) : Option (Bool):=(law10_Code.f a0 a1 a2).bind fun x1=>(law11_Msg.f (x1.1,x1.2.1,x1.2.2) a3).bind fun x4=>(ref11_Encode.f k (x1.1,x1.2.1,x1.2.2) x4).bind fun x7=>(ref24_Hex.f k x7.1).bind fun x10=>(law24_known.f k).bind fun x12=>bif x12 then ((law24_Line.f (x1.1,x1.2.1,x1.2.2)).bind fun x15=>grd (decide ((x15.size + l_str8.size : Nat) ≤ 140737488355328)) ((ref24_Hex.f k x4).bind fun x18=>grd (decide (((cat x15 l_str8).size + x18.size : Nat) ≤ 140737488355328)) (grd (decide (((cat (cat x15 l_str8) x18).size + l_str9.size : Nat) ≤ 140737488355328)) (grd (decide (((cat (cat (cat x15 l_str8) x18) l_str9).size + x10.size : Nat) ≤ 140737488355328)) (grd (decide (((cat (cat (cat (cat x15 l_str8) x18) l_str9) x10).size + l_str10.size : Nat) ≤ 140737488355328)) ((play_Run.f k (cat (cat (cat (cat (cat x15 l_str8) x18) l_str9) x10) l_str10)).bind fun x24=>grd (decide ((l_str11.size + x10.size : Nat) ≤ 140737488355328)) (grd (decide (((cat l_str11 x10).size + l_str10.size : Nat) ≤ 140737488355328)) ((ref24_Hex.f k x4).bind fun x28=>grd (decide (((cat (cat l_str11 x10) l_str10).size + x28.size : Nat) ≤ 140737488355328)) (grd (decide (((cat (cat (cat l_str11 x10) l_str10) x28).size + l_str12.size : Nat) ≤ 140737488355328)) (grd (decide (((cat (cat (cat (cat l_str11 x10) l_str10) x28) l_str12).size + x10.size : Nat) ≤ 140737488355328)) (grd (decide (((cat (cat (cat (cat (cat l_str11 x10) l_str10) x28) l_str12) x10).size + l_str13.size : Nat) ≤ 140737488355328)) (some (decide (x24 = (cat (cat (cat (cat (cat (cat l_str11 x10) l_str10) x28) l_str12) x10) l_str13))))))))))))))) else (some false)
theorem law24_PlayEncodes.calls {w0 : World} {k : Nat} {a0 : Int} {a1 : Int} {a2 : Int} {a3 : List Int} {v3_ : Value} {r : Bool} (hf : (Rs.env ).inv w0) (h3 : Rd (.of (.int .u8)) w0 (Ol no w0) v3_ a3) (E : law24_PlayEncodes.f k a0 a1 a2 a3 = some r) :
   Calls Tryz.prog 3 #[.int .u8 a0,.int .u8 a1,.int .u8 a2,v3_] w0 fun e w'=>e = .returned (.bool r) ∧ St (Rs.env ).fp w0 w' [.gt,.lv]:=by
 have H:=env_open hf
 unfold law24_PlayEncodes.f at E
 refine calls_of_wc (N:=54) (args:=[.int .u8 a0,.int .u8 a1,.int .u8 a2,v3_]) Tryz.func3 z z (by simp) ?_
 refine rg (v_ z (sg (.bool false) z) (nl (rg (v_ z (mv (.int .u8 a0) z) (v_ z (mv (.int .u8 a1) z) (v_ z (mv (.int .u8 a2) z) ?_))))))
 obtain ⟨x1,E2,E⟩:=bind_some E
 refine e_ z (y_callL l_en_4 z ((law10_Code.calls E2).mono ?_))
 rintro _ w ⟨rfl,K⟩
 have H:=H.app K
 refine ⟨_,z,(e_ z (y_allocS r_zr_24 H (fun b3 w H=>(s_ (y_storeBA r_sz_24 H 2 z z z z z z (fun w H=>(nl (rg (v_ z (r_loadB (l:=[.int .i64 x1.1,.int .i64 x1.2.1,.int .i64 x1.2.2]) e_ag_24 (H.get 2 z) z z z) (v_ z (mv v3_ z) ?_))))))))))⟩
 obtain ⟨x4,E5,E⟩:=bind_some E
 refine e_ z (y_callL l_en_5 z ((law11_Msg.calls (env_arg H (env_rd H z z hf h3)) E5).mono ?_))
 rintro _ w ⟨v6,rfl,K⟩
 have H:=H.app K
 refine ⟨_,z,(v_ z (sg v6 z) (nl (rg (v_ z (r_loadB (l:=[.int .i64 x1.1,.int .i64 x1.2.1,.int .i64 x1.2.2]) e_ag_24 (H.get 2 z) z z z) (v_ z (mv v6 z) ?_)))))⟩
 obtain ⟨x7,E8,E⟩:=bind_some E
 refine e_ z (y_callL l_en_6 z ((ref11_Encode.calls (H.own 3 z (own_rd (H.get 3 z))) E8).mono ?_))
 rintro _ w ⟨v9,rfl,K⟩
 have H:=H.app K
 refine ⟨_,z,?_⟩
 have H : St (Rs.env ).fp w0 _ [.gt,.lv,.blk b3 #[.int .i64 x1.1,.int .i64 x1.2.1,.int .i64 x1.2.2] 24,.own (.int .u8) 5 v6 x4,.own (.int .u8) 5 v9 x7.1]:=H
 refine v_ z (r_move) (v_ z (r_extract z z) (v_ z (r_extract z z) (v_ z (sg v9 z) (v_ z (sg (.int .i64 x7.2) z) (nl (rg (v_ z (mv v9 z) ?_)))))))
 obtain ⟨x10,E11,E⟩:=bind_some E
 refine e_ z (y_callL l_en_7 z ((ref24_Hex.calls (H.own 4 z (own_rd (H.get 4 z))) E11).mono ?_))
 rintro _ w ⟨rfl,K⟩
 have H:=H.app K
 refine ⟨_,z,(v_ z (sg (.string x10) z) (nl (rg ?_)))⟩
 obtain ⟨x12,E13,E⟩:=bind_some E
 refine e_ z (y_callL l_en_8 z ((law24_known.calls (env_inv (H.get 0 z) (H.get 1 z)) E13).mono ?_))
 rintro _ w ⟨rfl,K⟩
 have H:=H.appE 0 1 z z (by decide) K
 refine ⟨_,z,(v_ z (mv (.bool x12) z) ?_)⟩
 rcases Bool.eq_false_or_eq_true (x12) with c14 | c14
 · have E:=iT c14 E
   refine on_ c14 z z (r_loadB (l:=[.int .i64 x1.1,.int .i64 x1.2.1,.int .i64 x1.2.2]) e_ag_24 (H.get 2 z) z z z) ?_
   obtain ⟨x15,E16,E⟩:=bind_some E
   refine wl_on z c14 z (y_callL l_en_10 z ((law24_Line.calls (H.get 1 z) E16).mono ?_))
   rintro _ w ⟨rfl,K⟩
   have H:=H.appX 1 z K
   refine ⟨_,z,?_⟩
   obtain ⟨g17,E⟩:=grd_some E
   refine on_ c14 z z (r_cat z z g17) (on_ c14 z z (mv v6 z) ?_)
   obtain ⟨x18,E19,E⟩:=bind_some E
   refine wl_on z c14 z (y_callL l_en_7 z ((ref24_Hex.calls (H.own 3 z (own_rd (H.get 3 z))) E19).mono ?_))
   rintro _ w ⟨rfl,K⟩
   have H:=H.app K
   refine ⟨_,z,?_⟩
   obtain ⟨g20,E⟩:=grd_some E
   refine on_ c14 z z (r_cat z z g20) ?_
   obtain ⟨g21,E⟩:=grd_some E
   refine on_ c14 z z (r_cat z z g21) (on_ c14 z z (mv (.string x10) z) ?_)
   obtain ⟨g22,E⟩:=grd_some E
   refine on_ c14 z z (r_cat z z g22) ?_
   obtain ⟨g23,E⟩:=grd_some E
   refine on_ c14 z z (r_cat z z g23) ?_
   obtain ⟨x24,E25,E⟩:=bind_some E
   refine wl_on z c14 z (y_callL l_en_9 z ((play_Run.calls (env_inv (H.get 0 z) (H.get 1 z)) E25).mono ?_))
   rintro _ w ⟨rfl,K⟩
   have H:=H.appE 0 1 z z (by decide) K
   refine ⟨_,z,?_⟩
   have H : St (Rs.env ).fp w0 _ [.gt,.lv,.blk b3 #[.int .i64 x1.1,.int .i64 x1.2.1,.int .i64 x1.2.2] 24,.own (.int .u8) 5 v6 x4,.own (.int .u8) 5 v9 x7.1]:=H
   refine on_ c14 z z (mv (.string x10) z) ?_
   obtain ⟨g26,E⟩:=grd_some E
   refine on_ c14 z z (r_cat z z g26) ?_
   obtain ⟨g27,E⟩:=grd_some E
   refine on_ c14 z z (r_cat z z g27) (on_ c14 z z (mv v6 z) ?_)
   obtain ⟨x28,E29,E⟩:=bind_some E
   refine wl_on z c14 z (y_callL l_en_7 z ((ref24_Hex.calls (H.own 3 z (own_rd (H.get 3 z))) E29).mono ?_))
   rintro _ w ⟨rfl,K⟩
   have H:=H.app K
   refine ⟨_,z,?_⟩
   obtain ⟨g30,E⟩:=grd_some E
   refine on_ c14 z z (r_cat z z g30) ?_
   obtain ⟨g31,E⟩:=grd_some E
   refine on_ c14 z z (r_cat z z g31) (on_ c14 z z (mv (.string x10) z) ?_)
   obtain ⟨g32,E⟩:=grd_some E
   refine on_ c14 z z (r_cat z z g32) ?_
   obtain ⟨g33,E⟩:=grd_some E
   refine on_ c14 z z (r_cat z z g33) (on_ c14 z z (r_seql z z) (v_ z (pT (.bool (decide (x24 = (cat (cat (cat (cat (cat (cat l_str11 x10) l_str10) x28) l_str12) x10) l_str13)))) z z c14) (v_ z (sg (.bool (decide (x24 = (cat (cat (cat (cat (cat (cat l_str11 x10) l_str10) x28) l_str12) x10) l_str13)))) z) (nl (wc_ret ?_)))))
   cases E
   exact ⟨.inl z,_,tk0 z ⟨resN z (rv_t rv_nil),z,H.sub2 0 1 z z z⟩⟩
 · have E:=iF c14 E
   refine off_ c14 z z z (off_ c14 z z z (off_ c14 z z z (off_ c14 z z z (off_ c14 z z z (off_ c14 z z z (off_ c14 z z z (off_ c14 z z z (off_ c14 z z z (off_ c14 z z z (off_ c14 z z z (off_ c14 z z z (off_ c14 z z z (off_ c14 z z z (off_ c14 z z z (off_ c14 z z z (off_ c14 z z z (off_ c14 z z z (off_ c14 z z z (off_ c14 z z z (off_ c14 z z z (off_ c14 z z z (v_ z (pF (.bool false) z z c14) (v_ z (sg (.bool false) z) (nl (wc_ret ?_)))))))))))))))))))))))))
   cases E
   exact ⟨.inl z,_,tk0 z ⟨resN z (rv_t rv_nil),z,H.sub2 0 1 z z z⟩⟩
end Go.Proofs.YtkndgkbgbmhjoaaGreatDoor.Gw
