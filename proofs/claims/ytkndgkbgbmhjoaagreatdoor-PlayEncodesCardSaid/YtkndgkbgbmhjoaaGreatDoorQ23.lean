/- The card of the law that what a desk encodes is read back from what it tells: a part of its proof. The conditions are those of the statement. -/
import Derived.Test.YtkndgkbgbmhjoaaGreatDoorQ3
import Derived.Test.YtkndgkbgbmhjoaaGreatDoorQ22
import Derived.Test.YtkndgkbgbmhjoaaGreatDoorProg
import Derived.Test.YtkndgkbgbmhjoaaGreatDoorQ4
import Derived.Test.YtkndgkbgbmhjoaaGreatDoorQ12
import Derived.Test.YtkndgkbgbmhjoaaGreatDoorQ13
import Derived.Test.YtkndgkbgbmhjoaaGreatDoorQ14
import Derived.Test.YtkndgkbgbmhjoaaGreatDoorQ15
import Derived.Test.YtkndgkbgbmhjoaaGreatDoorQ16
import Derived.Test.YtkndgkbgbmhjoaaGreatDoorQ17
import Derived.Test.YtkndgkbgbmhjoaaGreatDoorQ18
import Derived.Test.YtkndgkbgbmhjoaaGreatDoorQ19
namespace Go.Proofs.YtkndgkbgbmhjoaaGreatDoor.Gw
open Go Go.RowKit
set_option linter.unusedVariables false
set_option linter.unusedSimpArgs false
set_option linter.unusedSectionVars false
variable [LibO]
set_option linter.unnecessarySimpa false
set_option maxRecDepth 100000
set_option maxHeartbeats 4000000
open Go.IntKind (i8 i16 i32 i64 u8 u16 u32 u64)
theorem c_ag_24 : Ag Tryz.prog 24 3:=⟨_,Tryz.underlying24,z,by kernel_rfl⟩
theorem c_en_38 : En Tryz.prog 38:=⟨_,_,Tryz.func38,by kernel_rfl,z⟩
theorem c_ag_44 : Ag Tryz.prog 44 2:=⟨_,Tryz.underlying44,z,by kernel_rfl⟩
theorem c_en_40 : En Tryz.prog 40:=⟨_,_,Tryz.func40,by kernel_rfl,z⟩
theorem c_en_68 : En Tryz.prog 68:=⟨_,_,Tryz.func68,by kernel_rfl,z⟩
theorem c_fa_24_1 : Fa Tryz.prog 24 1 1:=⟨_,_,Tryz.underlying24,z,z,0,by kernel_rfl⟩
theorem c_en_69 : En Tryz.prog 69:=⟨_,_,Tryz.func69,by kernel_rfl,z⟩
theorem c_sz_44 : Sz Tryz.prog 44 2:=by show _ = _; kernel_rfl
theorem c_fa_44_1 : Fa Tryz.prog 44 1 1:=⟨_,_,Tryz.underlying44,z,z,0,by kernel_rfl⟩
theorem c_fa_89_0 : Fa Tryz.prog 89 0 0:=⟨_,_,Tryz.underlying89,z,z,19,by kernel_rfl⟩
theorem c_ar_82 : Ar Tryz.prog 82 4 5:=⟨_,Tryz.underlying82,by kernel_rfl⟩
theorem c_en_71 : En Tryz.prog 71:=⟨_,_,Tryz.func71,by kernel_rfl,z⟩
theorem c_en_70 : En Tryz.prog 70:=⟨_,_,Tryz.func70,by kernel_rfl,z⟩
theorem c_zr_101 : Zr Tryz.prog 101 #[.slice none 0 0,.slice none 0 0,.slice none 0 0]:=⟨.agg #[.slice none 0 0,.slice none 0 0,.slice none 0 0],by kernel_rfl,z⟩
theorem c_bd_101 : Bd Tryz.prog 101 #[.slice none 0 0,.slice none 0 0,.slice none 0 0] [(0,1),(1,1),(2,1)]:=⟨_,.agg #[.slice none 0 0,.slice none 0 0,.slice none 0 0],Tryz.underlying101,by kernel_rfl,z,fun w=>by kernel_rfl⟩
theorem c_sz_101 : Sz Tryz.prog 101 3:=by show _ = _; kernel_rfl
theorem c_ag_101 : Ag Tryz.prog 101 3:=⟨_,Tryz.underlying101,z,by kernel_rfl⟩
theorem c_fa_24_0 : Fa Tryz.prog 24 0 0:=⟨_,_,Tryz.underlying24,z,z,0,by kernel_rfl⟩
theorem c_en_73 : En Tryz.prog 73:=⟨_,_,Tryz.func73,by kernel_rfl,z⟩
theorem c_ul_45 : ((#[45] : Array TypeId)[0]?).bind Tryz.prog.underlying = some (.slice 3):=bind_ul Tryz.underlying45
theorem c_fa_44_0 : Fa Tryz.prog 44 0 0:=⟨_,_,Tryz.underlying44,z,z,0,by kernel_rfl⟩
theorem c_fa_89_1 : Fa Tryz.prog 89 1 20:=⟨_,_,Tryz.underlying89,z,z,15,by kernel_rfl⟩
theorem c_ar_87 : Ar Tryz.prog 87 4 4:=⟨_,Tryz.underlying87,by kernel_rfl⟩
theorem c_ar_86 : Ar Tryz.prog 86 4 1:=⟨_,Tryz.underlying86,by kernel_rfl⟩
theorem c_en_74 : En Tryz.prog 74:=⟨_,_,Tryz.func74,by kernel_rfl,z⟩
theorem c_en_75 : En Tryz.prog 75:=⟨_,_,Tryz.func75,by kernel_rfl,z⟩
theorem c_en_76 : En Tryz.prog 76:=⟨_,_,Tryz.func76,by kernel_rfl,z⟩
theorem c_en_92 : En Tryz.prog 92:=⟨_,_,Tryz.func92,by kernel_rfl,z⟩
def codec_right.f (a0 : Int × Int × Int) (a1 : Int × Int) : Option (Int):=(code_Right.f (a0.1,a0.2.1,a0.2.2)).bind fun x3=>bif !decide (x3 = 0) then (some x3) else ((pick_Right.f (a1.1,a1.2)).bind fun x6=>some x6)
theorem codec_right.calls {w0 : World} {a0 : Int × Int × Int} {a1 : Int × Int} {r : Int}  (E : codec_right.f a0 a1 = some r) :
   Calls Tryz.prog 68 #[.agg #[.int .i64 a0.1,.int .i64 a0.2.1,.int .i64 a0.2.2],.agg #[.int .i64 a1.1,.int .i64 a1.2]] w0 fun e w'=>e = .returned (.int .u16 r) ∧ St no w0 w' []:=by
 have H:=St.nil no w0
 unfold codec_right.f at E
 refine calls_of_wc (N:=13) (args:=[.agg #[.int .i64 a0.1,.int .i64 a0.2.1,.int .i64 a0.2.2],.agg #[.int .i64 a1.1,.int .i64 a1.2]]) Tryz.func68 z z (by simp) ?_
 refine rg (e_ z (y_boxS (cs:=#[.int .i64 a0.1,.int .i64 a0.2.1,.int .i64 a0.2.2]) H z (fun b1 w H=>(e_ z (y_boxS (cs:=#[.int .i64 a1.1,.int .i64 a1.2]) H z (fun b2 w H=>(v_ z (sg (.int .u16 0) z) (nl (wc_seq (rg (v_ z (r_loadB (l:=[.int .i64 a0.1,.int .i64 a0.2.1,.int .i64 a0.2.2]) c_ag_24 (H.get 0 z) z z z) ?_)))))))))))
 obtain ⟨x3,E4,E⟩:=bind_some E
 refine e_ z (y_callL c_en_38 z ((code_Right.calls E4).mono ?_))
 rintro _ w ⟨rfl,K⟩
 have H:=H.app K
 refine ⟨_,z,(v_ z (sg (.int .u16 x3) z) (nl (rg (v_ z (mv (.int .u16 x3) z) (v_ z (r_neq z z) (nl ?_))))))⟩
 refine wc_cond z (fun c5=>?_) (fun c5=>?_)
 · have E:=iT c5 E
   refine rg (v_ z (mv (.int .u16 x3) z) (v_ z (sg (.int .u16 x3) z) (nl (wc_ret ?_))))
   cases E
   exact (r_thn ⟨.inl z,_,tk0 z ⟨resN z (rv_t rv_nil),z,H.sub0⟩⟩)
 · have E:=iF c5 E
   refine wc_skip (n_thn (rg (v_ z (r_loadB (l:=[.int .i64 a1.1,.int .i64 a1.2]) c_ag_44 (H.get 1 z) z z z) ?_)))
   obtain ⟨x6,E7,E⟩:=bind_some E
   refine e_ z (y_callL c_en_40 z ((pick_Right.calls E7).mono ?_))
   rintro _ w ⟨rfl,K⟩
   have H:=H.app K
   refine ⟨_,z,(v_ z (sg (.int .u16 x6) z) (nl (wc_ret ?_)))⟩
   cases E
   exact ⟨.inl z,_,tk0 z ⟨resN z (rv_t rv_nil),z,H.sub0⟩⟩
def codec_Desk_Encode.f (k : Nat) (n0_ : List Int) (a1 : Int × Int × Int) (a2 : Int × Int) (a3 : List Int) : Option ((List Int × Int) × List Int):=(codec_right.f (a1.1,a1.2.1,a1.2.2) (a2.1,a2.2)).bind fun x6=>bif !decide (x6 = 0) then (some ((([] : List (Int)),x6),n0_)) else (bif !decide ((a3.length : Int) = a1.2.1) then (some ((([] : List (Int)),12),n0_)) else ((pick_Choose.f (a1.1,a1.2.1,a1.2.2) 0 (a2.1,a2.2)).bind fun x11=>grd (decide ((0 : Int) ≤ x11.1.2 ∧ x11.1.2 < 4)) (grd (decide (x11.1.2 = 1 ∨ x11.1.2 = 2)) ((encode_Encode.f k (a1.1,a1.2.1,a1.2.2) a3).bind fun x28=>some ((x28.1,x28.2),n0_)))))
theorem codec_Desk_Encode.calls {w0 : World} {k : Nat} {b0_ : Nat} {d0_ : DS} {n0_ : List Int} {a1 : Int × Int × Int} {a2 : Int × Int} {a3 : List Int} {v3_ : Value} {r : (List Int × Int) × List Int} (hf : (Rs.gd b0_ d0_ n0_).inv w0) (h3 : Rd (.of (.int .u8)) w0 (Ol (Rs.gd b0_ d0_ n0_).fp w0) v3_ a3) (E : codec_Desk_Encode.f k n0_ a1 a2 a3 = some r) :
   Calls Tryz.prog 42 #[pt b0_,.agg #[.int .i64 a1.1,.int .i64 a1.2.1,.int .i64 a1.2.2],.agg #[.int .i64 a2.1,.int .i64 a2.2],v3_] w0 fun e w'=>∃ (m_ : DS) (u0 : Value),e = .returned (.tuple #[u0,.int .u16 r.1.2]) ∧ St (Rs.gd b0_ d0_ n0_).fp w0 w' [.gd b0_ m_ r.2,.own (.int .u8) 5 u0 r.1.1]:=by
 have H:=St.start hf
 unfold codec_Desk_Encode.f at E
 refine calls_of_wc (N:=44) (args:=[pt b0_,.agg #[.int .i64 a1.1,.int .i64 a1.2.1,.int .i64 a1.2.2],.agg #[.int .i64 a2.1,.int .i64 a2.2],v3_]) Tryz.func42 z z (by simp) ?_
 refine rg (e_ z (y_boxS (cs:=#[.int .i64 a1.1,.int .i64 a1.2.1,.int .i64 a1.2.2]) H z (fun b1 w H=>(e_ z (y_boxS (cs:=#[.int .i64 a2.1,.int .i64 a2.2]) H z (fun b2 w H=>(v_ z (sg (.slice none 0 0) z) (v_ z (sg (.int .u16 0) z) (nl (wc_seq (rg (v_ z (mv (pt b0_) z) (v_ z (r_peql0 Tryz.underlying41 z z) (nl (wc_condF z (wc_skip (n_thn (wc_seq (rg (v_ z (r_loadB (l:=[.int .i64 a1.1,.int .i64 a1.2.1,.int .i64 a1.2.2]) c_ag_24 (H.get 1 z) z z z) (v_ z (r_loadB (l:=[.int .i64 a2.1,.int .i64 a2.2]) c_ag_44 (H.get 2 z) z z z) ?_)))))))))))))))))))))
 obtain ⟨x6,E7,E⟩:=bind_some E
 refine e_ z (y_callL c_en_68 z ((codec_right.calls E7).mono ?_))
 rintro _ w ⟨rfl,K⟩
 have H:=H.app K
 refine ⟨_,z,(v_ z (sg (.int .u16 x6) z) (nl (rg (v_ z (mv (.int .u16 x6) z) (v_ z (r_neq z z) (nl ?_))))))⟩
 refine wc_cond z (fun c8=>?_) (fun c8=>?_)
 · have E:=iT c8 E
   refine rg (v_ z (mv (.int .u16 x6) z) (v_ z (sg (.slice none 0 0) z) (v_ z (sg (.int .u16 x6) z) (nl (wc_ret ?_)))))
   have H:=H.nilOwn (.int .u8) 5
   cases E
   exact (r_thn ⟨.inl z,_,tk0 z ⟨resN z (rv_t (rv_t rv_nil)),_,_,z,H.sub2 0 3 z z z⟩⟩)
 · have E:=iF c8 E
   refine wc_skip (n_thn (wc_seq (rg (v_ z (mv v3_ z) (v_ z (r_lenR h_ul_22 (H.rd h3) z) (v_ z (r_faddr c_fa_24_1 z) (v_ z (r_load h_sc_3 z (blk_cell (H.get 1 z) z)) (v_ z (r_neq z z) (nl ?_)))))))))
   refine wc_cond z (fun c10=>?_) (fun c10=>?_)
   · have E:=iT c10 E
     refine rg (v_ z (sg (.slice none 0 0) z) (v_ z (sg (.int .u16 12) z) (nl (wc_ret ?_))))
     have H:=H.nilOwn (.int .u8) 5
     cases E
     exact (r_thn ⟨.inl z,_,tk0 z ⟨resN z (rv_t (rv_t rv_nil)),_,_,z,H.sub2 0 3 z z z⟩⟩)
   · have E:=iF c10 E
     refine wc_skip (n_thn (rg (v_ z (r_loadB (l:=[.int .i64 a1.1,.int .i64 a1.2.1,.int .i64 a1.2.2]) c_ag_24 (H.get 1 z) z z z) (v_ z (r_loadB (l:=[.int .i64 a2.1,.int .i64 a2.2]) c_ag_44 (H.get 2 z) z z z) ?_))))
     obtain ⟨x11,E12,E⟩:=bind_some E
     refine e_ z (y_callL c_en_69 z ((pick_Choose.calls E12).mono ?_))
     rintro _ w ⟨rfl,K⟩
     have H:=H.app K
     refine ⟨_,z,(v_ z (r_move) (v_ z (r_extract z z) (v_ z (r_extract z z) (s_ (y_storeBA c_sz_44 H 2 z z z z z z (fun w H=>(nl (wc_seq (wc_drawnW (ds:=[]) (fun w=>∃ (d' : DS) (n' : List Int),St (Rs.gd b0_ d0_ n0_).fp w0 w [.gd b0_ d' n',.blk b1 #[.int .i64 a1.1,.int .i64 a1.2.1,.int .i64 a1.2.2] 24,.blk b2 #[.int .i64 x11.1.1,.int .i64 x11.1.2] 44]) h_mo H z z ?_)))))))))⟩
     have H:=H.drew
     have H : St (Rs.gd b0_ d0_ n0_).fp w0 _ [.gd b0_ d0_ n0_,.blk b1 #[.int .i64 a1.1,.int .i64 a1.2.1,.int .i64 a1.2.2] 24,.blk b2 #[.int .i64 x11.1.1,.int .i64 x11.1.2] 44]:=H
     refine wt 0 (tf 1 16) z z z (by kernel_rfl) ⟨_,_,H⟩ (fun w ⟨d',n',H⟩=>(mv (pt b0_) z)) (wt 1 (tf 2 16) z z z (by kernel_rfl) ⟨_,_,H⟩ (fun w ⟨d',n',H⟩=>(r_faddr c_fa_44_1 z)) (wt 2 (tf 3 16) z z z (by kernel_rfl) ⟨_,_,H⟩ (fun w ⟨d',n',H⟩=>(r_load h_sc_3 z (blk_cell (H.get 2 z) z))) (wt 3 (tf 4 16) z z z (by kernel_rfl) ⟨_,_,H⟩ (fun w ⟨d',n',H⟩=>(r_nilck z)) (wt 4 (tf 5 16) z z z (by kernel_rfl) ⟨_,_,H⟩ (fun w ⟨d',n',H⟩=>(r_faddr c_fa_89_0 z)) ?_))))
     obtain ⟨⟨g22,g23⟩,E⟩:=grd_some E
     refine wt 5 (tf 6 16) z z z (by kernel_rfl) ⟨_,_,H⟩ (fun w ⟨d',n',H⟩=>(r_iaddrA c_ar_82 z z g22 g23)) (wt 6 (tf 7 16) z z z (by kernel_rfl) ⟨_,_,H⟩ (fun w ⟨d',n',H⟩=>(r_faddr c_fa_44_1 z)) (wt 7 (tf 8 16) z z z (by kernel_rfl) ⟨_,_,H⟩ (fun w ⟨d',n',H⟩=>(r_load h_sc_3 z (blk_cell (H.get 2 z) z))) (wt 9 #[true,true,true,true,true,true,true,true,false,true,false,false,false,false,false,false] z z z (by kernel_rfl) ⟨_,_,H⟩ (fun w ⟨d',n',H⟩=>(r_loadB (l:=[.int .i64 a1.1,.int .i64 a1.2.1,.int .i64 a1.2.2]) c_ag_24 (H.get 1 z) z z z)) (wt 10 #[true,true,true,true,true,true,true,true,false,true,true,false,false,false,false,false] z z z (by kernel_rfl) ⟨_,_,H⟩ (fun w ⟨d',n',H⟩=>(mv v3_ z)) ?_))))
     obtain ⟨g27,E⟩:=grd_some E
     refine wa_one (i:=8) (l':=(tf 11 16)) z z z (by kernel_rfl) (y_of H 0 z c_en_71 z z g27 (fun f24 d25 w hf26 H=>⟨fun _=>⟨_,_,H.sel [0,1,2] z z⟩,?_⟩))
     obtain ⟨x28,E29,E⟩:=bind_some E
     refine wa_one (i:=11) (l':=(tf 12 16)) z z z (by kernel_rfl) (y_callL c_en_70 z ((encode_Encode.calls (gd_fld (H.get 0 z) hf26) (ol_fld hf26 (H.argX 0 z (H.rd h3))) E29).mono ?_))
     rintro _ w ⟨v30,rfl,K⟩
     have H:=H.appF 0 z hf26 K
     refine ⟨_,z,⟨fun _=>⟨_,_,H.sel [0,1,2] z z⟩,(wt 12 (tf 13 16) z z z (by kernel_rfl) ⟨_,_,H.sel [0,1,2] z z⟩ (fun w ⟨d',n',H⟩=>(r_extract z z)) (wt 13 (tf 14 16) z z z (by kernel_rfl) ⟨_,_,H.sel [0,1,2] z z⟩ (fun w ⟨d',n',H⟩=>(r_extract z z)) (wa_oneV (i:=14) (l':=(tf 15 16)) z z z (by kernel_rfl) (⟨_,_,H.sel [0,1,2] z z⟩) (sg v30 z) (wt 15 (tf 16 16) z z z (by kernel_rfl) ⟨_,_,H.sel [0,1,2] z z⟩ (fun w ⟨d',n',H⟩=>(sg (.int .u16 x28.2) z)) (wa_done (by kernel_rfl) (n_thn (wc_ret ?_)))))))⟩⟩
     cases E
     exact ⟨.inl z,_,tk0 z ⟨resN z (rv_t (rv_t rv_nil)),_,_,z,H.sub2 0 3 z z z⟩⟩
def codec_Desk_Decode.f (k : Nat) (n0_ : List Int) (a1 : Int × Int × Int) (a2 : Int × Int) (a3 : List Int) (a4 : List Int) : Option (((List Int × List Int × List Int) × Int) × List Int):=(codec_right.f (a1.1,a1.2.1,a1.2.2) (a2.1,a2.2)).bind fun x7=>bif !decide (x7 = 0) then (some (((([] : List (Int)),([] : List (Int)),([] : List (Int))),x7),n0_)) else (bif !decide ((a3.length : Int) = a1.1) then (some (((([] : List (Int)),([] : List (Int)),([] : List (Int))),12),n0_)) else ((synd_Erasures.f k (a1.1,a1.2.1,a1.2.2) a4).bind fun x15=>bif !decide (x15 = 0) then (some (((([] : List (Int)),([] : List (Int)),([] : List (Int))),x15),n0_)) else ((pick_Choose.f (a1.1,a1.2.1,a1.2.2) (a4.length : Int) (a2.1,a2.2)).bind fun x18=>grd (decide ((0 : Int) ≤ x18.1.1 ∧ x18.1.1 < 4)) (grd (decide ((0 : Int) ≤ x18.1.2 ∧ x18.1.2 < 4)) (grd (decide ((0 : Int) ≤ x18.1.2 ∧ x18.1.2 < 4)) (grd (decide (x18.1.2 = 1 ∨ x18.1.2 = 2)) ((three_By.f k x18.1.1 (a1.1,a1.2.1,a1.2.2) a3 a4).bind fun x43=>bif !x43.2 then (some (((([] : List (Int)),([] : List (Int)),([] : List (Int))),14),n0_.set (cix x18.1.1 x18.1.2).toNat (i64.wrap (at_ 0 n0_ (cix x18.1.1 x18.1.2) + 1)))) else ((check_Answer.f k (a1.1,a1.2.1,a1.2.2) a3 x43.1).bind fun x48=>some (((x48.1.1,x48.1.2.1,x48.1.2.2),x48.2),n0_.set (cix x18.1.1 x18.1.2).toNat (i64.wrap (at_ 0 n0_ (cix x18.1.1 x18.1.2) + 1)))))))))))
theorem codec_Desk_Decode.calls {w0 : World} {k : Nat} {b0_ : Nat} {d0_ : DS} {n0_ : List Int} {a1 : Int × Int × Int} {a2 : Int × Int} {a3 : List Int} {a4 : List Int} {v3_ : Value} {v4_ : Value} {r : ((List Int × List Int × List Int) × Int) × List Int} (hf : (Rs.gd b0_ d0_ n0_).inv w0) (h3 : Rd (.of (.int .u8)) w0 (Ol (Rs.gd b0_ d0_ n0_).fp w0) v3_ a3) (h4 : Rd (.of (.int .i64)) w0 (Ol (Rs.gd b0_ d0_ n0_).fp w0) v4_ a4) (E : codec_Desk_Decode.f k n0_ a1 a2 a3 a4 = some r) :
   Calls Tryz.prog 44 #[pt b0_,.agg #[.int .i64 a1.1,.int .i64 a1.2.1,.int .i64 a1.2.2],.agg #[.int .i64 a2.1,.int .i64 a2.2],v3_,v4_] w0 fun e w'=>∃ (m_ : DS) (u0_0 : Value) (u0_1 : Value) (u0_2 : Value),e = .returned (.tuple #[.agg #[u0_0,u0_1,u0_2],.int .u16 r.1.2]) ∧ St (Rs.gd b0_ d0_ n0_).fp w0 w' [.gd b0_ m_ r.2,.own (.int .u8) 5 u0_0 r.1.1.1,.own (.int .u8) 5 u0_1 r.1.1.2.1,.own (.int .i64) 3 u0_2 r.1.1.2.2]:=by
 have H:=St.start hf
 unfold codec_Desk_Decode.f at E
 refine calls_of_wc (N:=84) (args:=[pt b0_,.agg #[.int .i64 a1.1,.int .i64 a1.2.1,.int .i64 a1.2.2],.agg #[.int .i64 a2.1,.int .i64 a2.2],v3_,v4_]) Tryz.func44 z z (by simp) ?_
 refine rg (e_ z (y_boxS (cs:=#[.int .i64 a1.1,.int .i64 a1.2.1,.int .i64 a1.2.2]) H z (fun b1 w H=>(e_ z (y_boxS (cs:=#[.int .i64 a2.1,.int .i64 a2.2]) H z (fun b2 w H=>(e_ z (y_allocS c_zr_101 H (fun b3 w H=>(v_ z (sg (.int .u16 0) z) (nl (wc_seq (rg (v_ z (mv (pt b0_) z) (v_ z (r_peql0 Tryz.underlying41 z z) (nl (wc_condF z (wc_skip (n_thn (wc_seq (rg (v_ z (r_loadB (l:=[.int .i64 a1.1,.int .i64 a1.2.1,.int .i64 a1.2.2]) c_ag_24 (H.get 1 z) z z z) (v_ z (r_loadB (l:=[.int .i64 a2.1,.int .i64 a2.2]) c_ag_44 (H.get 2 z) z z z) ?_)))))))))))))))))))))))
 obtain ⟨x7,E8,E⟩:=bind_some E
 refine e_ z (y_callL c_en_68 z ((codec_right.calls E8).mono ?_))
 rintro _ w ⟨rfl,K⟩
 have H:=H.app K
 refine ⟨_,z,(v_ z (sg (.int .u16 x7) z) (nl (rg (v_ z (mv (.int .u16 x7) z) (v_ z (r_neq z z) (nl ?_))))))⟩
 refine wc_cond z (fun c9=>?_) (fun c9=>?_)
 · have E:=iT c9 E
   refine rg (v_ z (r_build (cs:=[.slice none 0 0,.slice none 0 0,.slice none 0 0]) c_bd_101 z) (v_ z (mv (.int .u16 x7) z) (s_ (y_storeBA c_sz_101 H 3 z z z z z z (fun w H=>?_)))))
   have H : St (Rs.gd b0_ d0_ n0_).fp w0 _ [.gd b0_ d0_ n0_,.blk b1 #[.int .i64 a1.1,.int .i64 a1.2.1,.int .i64 a1.2.2] 24,.blk b2 #[.int .i64 a2.1,.int .i64 a2.2] 44,.blk b3 #[.slice none 0 0,.slice none 0 0,.slice none 0 0] 101]:=H
   refine v_ z (sg (.int .u16 x7) z) (nl (wc_ret ?_))
   have H:=H.nilOwn (.int .u8) 5
   have H:=H.nilOwn (.int .u8) 5
   have H:=H.nilOwn (.int .i64) 3
   cases E
   exact (r_thn ⟨.inl z,_,tk0 z ⟨resN z (rv_c z c_ag_101 (blk_range (n:=3) (H.get 3 z) z) z (rv_t rv_nil)),_,_,_,_,z,H.sel [0,4,5,6] z z⟩⟩)
 · have E:=iF c9 E
   refine wc_skip (n_thn (wc_seq (rg (v_ z (mv v3_ z) (v_ z (r_lenR h_ul_22 (H.rd h3) z) (v_ z (r_faddr c_fa_24_0 z) (v_ z (r_load h_sc_3 z (blk_cell (H.get 1 z) z)) (v_ z (r_neq z z) (nl ?_)))))))))
   refine wc_cond z (fun c11=>?_) (fun c11=>?_)
   · have E:=iT c11 E
     refine rg (v_ z (r_build (cs:=[.slice none 0 0,.slice none 0 0,.slice none 0 0]) c_bd_101 z) (s_ (y_storeBA c_sz_101 H 3 z z z z z z (fun w H=>?_))))
     have H : St (Rs.gd b0_ d0_ n0_).fp w0 _ [.gd b0_ d0_ n0_,.blk b1 #[.int .i64 a1.1,.int .i64 a1.2.1,.int .i64 a1.2.2] 24,.blk b2 #[.int .i64 a2.1,.int .i64 a2.2] 44,.blk b3 #[.slice none 0 0,.slice none 0 0,.slice none 0 0] 101]:=H
     refine v_ z (sg (.int .u16 12) z) (nl (wc_ret ?_))
     have H:=H.nilOwn (.int .u8) 5
     have H:=H.nilOwn (.int .u8) 5
     have H:=H.nilOwn (.int .i64) 3
     cases E
     exact (r_thn ⟨.inl z,_,tk0 z ⟨resN z (rv_c z c_ag_101 (blk_range (n:=3) (H.get 3 z) z) z (rv_t rv_nil)),_,_,_,_,z,H.sel [0,4,5,6] z z⟩⟩)
   · have E:=iF c11 E
     refine wc_skip (n_thn (wc_seq (rg (v_ z (r_loadB (l:=[.int .i64 a1.1,.int .i64 a1.2.1,.int .i64 a1.2.2]) c_ag_24 (H.get 1 z) z z z) (v_ z (mv v4_ z) ?_)))))
     obtain ⟨x15,E16,E⟩:=bind_some E
     refine e_ z (y_callL c_en_73 z ((synd_Erasures.calls (H.arg (H.rd h4)) E16).mono ?_))
     rintro _ w ⟨rfl,K⟩
     have H:=H.app K
     refine ⟨_,z,?_⟩
     have H : St (Rs.gd b0_ d0_ n0_).fp w0 _ [.gd b0_ d0_ n0_,.blk b1 #[.int .i64 a1.1,.int .i64 a1.2.1,.int .i64 a1.2.2] 24,.blk b2 #[.int .i64 a2.1,.int .i64 a2.2] 44,.blk b3 #[.slice none 0 0,.slice none 0 0,.slice none 0 0] 101]:=H
     refine v_ z (sg (.int .u16 x15) z) (nl (rg (v_ z (mv (.int .u16 x15) z) (v_ z (r_neq z z) (nl ?_)))))
     refine wc_cond z (fun c17=>?_) (fun c17=>?_)
     · have E:=iT c17 E
       refine rg (v_ z (r_build (cs:=[.slice none 0 0,.slice none 0 0,.slice none 0 0]) c_bd_101 z) (v_ z (mv (.int .u16 x15) z) (s_ (y_storeBA c_sz_101 H 3 z z z z z z (fun w H=>(v_ z (sg (.int .u16 x15) z) (nl (wc_ret ?_))))))))
       have H:=H.nilOwn (.int .u8) 5
       have H:=H.nilOwn (.int .u8) 5
       have H:=H.nilOwn (.int .i64) 3
       cases E
       exact (r_thn ⟨.inl z,_,tk0 z ⟨resN z (rv_c z c_ag_101 (blk_range (n:=3) (H.get 3 z) z) z (rv_t rv_nil)),_,_,_,_,z,H.sel [0,4,5,6] z z⟩⟩)
     · have E:=iF c17 E
       refine wc_skip (n_thn (rg (v_ z (r_loadB (l:=[.int .i64 a1.1,.int .i64 a1.2.1,.int .i64 a1.2.2]) c_ag_24 (H.get 1 z) z z z) (v_ z (mv v4_ z) (v_ z (r_lenR c_ul_45 (H.rd h4) z) (v_ z (r_loadB (l:=[.int .i64 a2.1,.int .i64 a2.2]) c_ag_44 (H.get 2 z) z z z) ?_))))))
       obtain ⟨x18,E19,E⟩:=bind_some E
       refine e_ z (y_callL c_en_69 z ((pick_Choose.calls E19).mono ?_))
       rintro _ w ⟨rfl,K⟩
       have H:=H.app K
       refine ⟨_,z,(v_ z (r_move) (v_ z (r_extract z z) (v_ z (r_extract z z) (s_ (y_storeBA c_sz_44 H 2 z z z z z z (fun w H=>(nl (wc_seq (wc_drawnW (ds:=[]) (fun w=>∃ (d' : DS) (n' : List Int),St (Rs.gd b0_ d0_ n0_).fp w0 w [.gd b0_ d' n',.blk b1 #[.int .i64 a1.1,.int .i64 a1.2.1,.int .i64 a1.2.2] 24,.blk b2 #[.int .i64 x18.1.1,.int .i64 x18.1.2] 44,.blk b3 #[.slice none 0 0,.slice none 0 0,.slice none 0 0] 101]) h_mo H z z ?_)))))))))⟩
       have H:=H.drew
       refine wt 0 (tf 1 10) z z z (by kernel_rfl) ⟨_,_,H⟩ (fun w ⟨d',n',H⟩=>(mv (pt b0_) z)) (wt 1 (tf 2 10) z z z (by kernel_rfl) ⟨_,_,H⟩ (fun w ⟨d',n',H⟩=>(r_faddr c_fa_44_0 z)) (wt 2 (tf 3 10) z z z (by kernel_rfl) ⟨_,_,H⟩ (fun w ⟨d',n',H⟩=>(r_load h_sc_3 z (blk_cell (H.get 2 z) z))) (wt 3 (tf 4 10) z z z (by kernel_rfl) ⟨_,_,H⟩ (fun w ⟨d',n',H⟩=>(r_faddr c_fa_44_1 z)) (wt 4 (tf 5 10) z z z (by kernel_rfl) ⟨_,_,H⟩ (fun w ⟨d',n',H⟩=>(r_load h_sc_3 z (blk_cell (H.get 2 z) z))) (wt 5 (tf 6 10) z z z (by kernel_rfl) ⟨_,_,H⟩ (fun w ⟨d',n',H⟩=>(r_nilck z)) (wt 6 (tf 7 10) z z z (by kernel_rfl) ⟨_,_,H⟩ (fun w ⟨d',n',H⟩=>(r_faddr c_fa_89_1 z)) ?_))))))
       obtain ⟨⟨g24,g25⟩,E⟩:=grd_some E
       refine wt 7 (tf 8 10) z z z (by kernel_rfl) ⟨_,_,H⟩ (fun w ⟨d',n',H⟩=>(r_iaddrA c_ar_87 z z g24 g25)) ?_
       obtain ⟨⟨g26,g27⟩,E⟩:=grd_some E
       refine wt 8 (tf 9 10) z z z (by kernel_rfl) ⟨_,_,H⟩ (fun w ⟨d',n',H⟩=>(r_iaddrA c_ar_86 z z g26 g27)) (wa_one (i:=9) (l':=(tf 10 10)) z z z (by kernel_rfl) (y_asked H 0 z c_en_74 z z g24 g25 g26 g27 (fun w H=>⟨fun _=>⟨_,_,H.sel [0,1,2,3] z z⟩,(wa_done (by kernel_rfl) (n_thn (wc_seq (wc_drawnW (ds:=[]) (fun w=>∃ (d' : DS) (n' : List Int),St (Rs.gd b0_ d0_ n0_).fp w0 w [.gd b0_ d' n',.blk b1 #[.int .i64 a1.1,.int .i64 a1.2.1,.int .i64 a1.2.2] 24,.blk b2 #[.int .i64 x18.1.1,.int .i64 x18.1.2] 44,.blk b3 #[.slice none 0 0,.slice none 0 0,.slice none 0 0] 101]) h_mo H z z ?_))))⟩)))
       have H:=H.drew
       refine wt 0 (tf 1 20) z z z (by kernel_rfl) ⟨_,_,H⟩ (fun w ⟨d',n',H⟩=>(r_faddr c_fa_44_0 z)) (wt 1 (tf 2 20) z z z (by kernel_rfl) ⟨_,_,H⟩ (fun w ⟨d',n',H⟩=>(r_load h_sc_3 z (blk_cell (H.get 2 z) z))) (wt 2 (tf 3 20) z z z (by kernel_rfl) ⟨_,_,H⟩ (fun w ⟨d',n',H⟩=>(mv (pt b0_) z)) (wt 3 (tf 4 20) z z z (by kernel_rfl) ⟨_,_,H⟩ (fun w ⟨d',n',H⟩=>(r_faddr c_fa_44_1 z)) (wt 4 (tf 5 20) z z z (by kernel_rfl) ⟨_,_,H⟩ (fun w ⟨d',n',H⟩=>(r_load h_sc_3 z (blk_cell (H.get 2 z) z))) (wt 5 (tf 6 20) z z z (by kernel_rfl) ⟨_,_,H⟩ (fun w ⟨d',n',H⟩=>(r_nilck z)) (wt 6 (tf 7 20) z z z (by kernel_rfl) ⟨_,_,H⟩ (fun w ⟨d',n',H⟩=>(r_faddr c_fa_89_0 z)) ?_))))))
       obtain ⟨⟨g37,g38⟩,E⟩:=grd_some E
       refine wt 7 (tf 8 20) z z z (by kernel_rfl) ⟨_,_,H⟩ (fun w ⟨d',n',H⟩=>(r_iaddrA c_ar_82 z z g37 g38)) (wt 8 (tf 9 20) z z z (by kernel_rfl) ⟨_,_,H⟩ (fun w ⟨d',n',H⟩=>(r_faddr c_fa_44_1 z)) (wt 9 (tf 10 20) z z z (by kernel_rfl) ⟨_,_,H⟩ (fun w ⟨d',n',H⟩=>(r_load h_sc_3 z (blk_cell (H.get 2 z) z))) (wt 11 #[true,true,true,true,true,true,true,true,true,true,false,true,false,false,false,false,false,false,false,false] z z z (by kernel_rfl) ⟨_,_,H⟩ (fun w ⟨d',n',H⟩=>(r_loadB (l:=[.int .i64 a1.1,.int .i64 a1.2.1,.int .i64 a1.2.2]) c_ag_24 (H.get 1 z) z z z)) (wt 12 #[true,true,true,true,true,true,true,true,true,true,false,true,true,false,false,false,false,false,false,false] z z z (by kernel_rfl) ⟨_,_,H⟩ (fun w ⟨d',n',H⟩=>(mv v3_ z)) (wt 13 #[true,true,true,true,true,true,true,true,true,true,false,true,true,true,false,false,false,false,false,false] z z z (by kernel_rfl) ⟨_,_,H⟩ (fun w ⟨d',n',H⟩=>(mv v4_ z)) ?_)))))
       obtain ⟨g42,E⟩:=grd_some E
       refine wa_one (i:=10) (l':=(tf 14 20)) z z z (by kernel_rfl) (y_of H 0 z c_en_71 z z g42 (fun f39 d40 w hf41 H=>⟨fun _=>⟨_,_,H.sel [0,1,2,3] z z⟩,?_⟩))
       obtain ⟨x43,E44,E⟩:=bind_some E
       refine wa_one (i:=14) (l':=(tf 15 20)) z z z (by kernel_rfl) (y_callL c_en_75 z ((three_By.calls (gd_fld (H.get 0 z) hf41) (ol_fld hf41 (H.argX 0 z (H.rd h3))) (ol_fld hf41 (H.argX 0 z (H.rd h4))) E44).mono ?_))
       rintro _ w ⟨v45,rfl,K⟩
       have H:=H.appF 0 z hf41 K
       refine ⟨_,z,⟨fun _=>⟨_,_,H.sel [0,1,2,3] z z⟩,?_⟩⟩
       have H : St (Rs.gd b0_ d0_ n0_).fp w0 _ [.gd b0_ d40 (n0_.set (cix x18.1.1 x18.1.2).toNat (i64.wrap (at_ 0 n0_ (cix x18.1.1 x18.1.2) + 1))),.blk b1 #[.int .i64 a1.1,.int .i64 a1.2.1,.int .i64 a1.2.2] 24,.blk b2 #[.int .i64 x18.1.1,.int .i64 x18.1.2] 44,.blk b3 #[.slice none 0 0,.slice none 0 0,.slice none 0 0] 101,.own (.int .u8) 5 v45 x43.1]:=H
       refine wt 15 (tf 16 20) z z z (by kernel_rfl) ⟨_,_,H.sel [0,1,2,3] z z⟩ (fun w ⟨d',n',H⟩=>(r_move)) (wt 16 (tf 17 20) z z z (by kernel_rfl) ⟨_,_,H.sel [0,1,2,3] z z⟩ (fun w ⟨d',n',H⟩=>(r_extract z z)) (wt 17 (tf 18 20) z z z (by kernel_rfl) ⟨_,_,H.sel [0,1,2,3] z z⟩ (fun w ⟨d',n',H⟩=>(r_extract z z)) (wa_oneV (i:=18) (l':=(tf 19 20)) z z z (by kernel_rfl) (⟨_,_,H.sel [0,1,2,3] z z⟩) (sg v45 z) (wt 19 (tf 20 20) z z z (by kernel_rfl) ⟨_,_,H.sel [0,1,2,3] z z⟩ (fun w ⟨d',n',H⟩=>(sg (.bool x43.2) z)) (wa_done (by kernel_rfl) (n_thn (wc_seq (rg (v_ z (mv (.bool x43.2) z) (v_ z (r_not z) (nl ?_)))))))))))
       refine wc_cond z (fun c47=>?_) (fun c47=>?_)
       · have E:=iT c47 E
         refine rg (v_ z (r_build (cs:=[.slice none 0 0,.slice none 0 0,.slice none 0 0]) c_bd_101 z) (s_ (y_storeBA c_sz_101 H 3 z z z z z z (fun w H=>(v_ z (sg (.int .u16 14) z) (nl (wc_ret ?_)))))))
         have H:=H.nilOwn (.int .u8) 5
         have H:=H.nilOwn (.int .u8) 5
         have H:=H.nilOwn (.int .i64) 3
         cases E
         exact (r_thn ⟨.inl z,_,tk0 z ⟨resN z (rv_c z c_ag_101 (blk_range (n:=3) (H.get 3 z) z) z (rv_t rv_nil)),_,_,_,_,z,H.sel [0,5,6,7] z z⟩⟩)
       · have E:=iF c47 E
         refine wc_skip (n_thn (rg (v_ z (r_loadB (l:=[.int .i64 a1.1,.int .i64 a1.2.1,.int .i64 a1.2.2]) c_ag_24 (H.get 1 z) z z z) (v_ z (mv v3_ z) (v_ z (mv v45 z) ?_)))))
         obtain ⟨x48,E49,E⟩:=bind_some E
         refine e_ z (y_callL c_en_76 z ((check_Answer.calls (H.arg (H.rd h3)) (H.own 4 z (own_rd (H.get 4 z))) E49).mono ?_))
         rintro _ w ⟨v50,v51,v52,rfl,K⟩
         have H:=H.app K
         refine ⟨_,z,(v_ z (r_extract z z) (v_ z (r_extract z z) ?_))⟩
         obtain ⟨p53,n54,c55,rfl⟩:=own_form (H.get 5 z)
         obtain ⟨p56,n57,c58,rfl⟩:=own_form (H.get 6 z)
         obtain ⟨p59,n60,c61,rfl⟩:=own_form (H.get 7 z)
         refine s_ (y_storeBA c_sz_101 H 3 z z z z z z (fun w H=>(v_ z (sg (.int .u16 x48.2) z) (nl (wc_ret ?_)))))
         cases E
         exact ⟨.inl z,_,tk0 z ⟨resN z (rv_c z c_ag_101 (blk_range (n:=3) (H.get 3 z) z) z (rv_t rv_nil)),_,_,_,_,z,H.sel [0,5,6,7] z z⟩⟩
def codec_Desk_Asked.f (n0_ : List Int) (a1 : Int × Int) : Option ((Int) × List Int):=(pick_Right.f (a1.1,a1.2)).bind fun x5=>bif !decide (x5 = 0) then (some (0,n0_)) else (grd (decide ((0 : Int) ≤ a1.1 ∧ a1.1 < 4)) (grd (decide ((0 : Int) ≤ a1.2 ∧ a1.2 < 4)) (some (at_ 0 n0_ (cix a1.1 a1.2),n0_))))
theorem codec_Desk_Asked.calls {w0 : World} {b0_ : Nat} {d0_ : DS} {n0_ : List Int} {a1 : Int × Int} {r : (Int) × List Int} (hf : (Rs.gd b0_ d0_ n0_).inv w0) (E : codec_Desk_Asked.f n0_ a1 = some r) :
   Calls Tryz.prog 55 #[pt b0_,.agg #[.int .i64 a1.1,.int .i64 a1.2]] w0 fun e w'=>∃ (m_ : DS),e = .returned (.int .i64 r.1) ∧ St (Rs.gd b0_ d0_ n0_).fp w0 w' [.gd b0_ m_ r.2]:=by
 have H:=St.start hf
 unfold codec_Desk_Asked.f at E
 refine calls_of_wc (N:=22) (args:=[pt b0_,.agg #[.int .i64 a1.1,.int .i64 a1.2]]) Tryz.func55 z z (by simp) ?_
 refine rg (e_ z (y_boxS (cs:=#[.int .i64 a1.1,.int .i64 a1.2]) H z (fun b1 w H=>(v_ z (sg (.int .i64 0) z) (nl (wc_seq (rg (v_ z (mv (pt b0_) z) (v_ z (r_peql0 Tryz.underlying41 z z) (v_ z (mv (.bool false) z) (on_ z z z (r_loadB (l:=[.int .i64 a1.1,.int .i64 a1.2]) c_ag_44 (H.get 1 z) z z z) ?_)))))))))))
 obtain ⟨x5,E6,E⟩:=bind_some E
 refine wl_on z z z (y_callL c_en_40 z ((pick_Right.calls E6).mono ?_))
 rintro _ w ⟨rfl,K⟩
 have H:=H.app K
 refine ⟨_,z,(on_ z z z (r_neq z z) (v_ z (pF (.bool (!decide (x5 = 0))) z z z) (nl ?_)))⟩
 refine wc_cond z (fun c7=>?_) (fun c7=>?_)
 · have E:=iT c7 E
   refine rg (v_ z (sg (.int .i64 0) z) (nl (wc_ret ?_)))
   cases E
   exact (r_thn ⟨.inl z,_,tk0 z ⟨resN z (rv_t rv_nil),_,z,H.sub1 0 z⟩⟩)
 · have E:=iF c7 E
   refine wc_skip (n_thn (wc_seq (wc_drawnS (ds:=[]) h_mo H z z ?_)))
   have H:=H.drew
   refine wt 0 (tf 1 11) z z z (by kernel_rfl) H (fun w H=>(mv (pt b0_) z)) (wt 1 (tf 2 11) z z z (by kernel_rfl) H (fun w H=>(r_faddr c_fa_44_0 z)) (wt 2 (tf 3 11) z z z (by kernel_rfl) H (fun w H=>(r_load h_sc_3 z (blk_cell (H.get 1 z) z))) (wt 3 (tf 4 11) z z z (by kernel_rfl) H (fun w H=>(r_faddr c_fa_44_1 z)) (wt 4 (tf 5 11) z z z (by kernel_rfl) H (fun w H=>(r_load h_sc_3 z (blk_cell (H.get 1 z) z))) (wt 5 (tf 6 11) z z z (by kernel_rfl) H (fun w H=>(r_nilck z)) (wt 6 (tf 7 11) z z z (by kernel_rfl) H (fun w H=>(r_faddr c_fa_89_1 z)) ?_))))))
   obtain ⟨⟨g12,g13⟩,E⟩:=grd_some E
   refine wt 7 (tf 8 11) z z z (by kernel_rfl) H (fun w H=>(r_iaddrA c_ar_87 z z g12 g13)) ?_
   obtain ⟨⟨g14,g15⟩,E⟩:=grd_some E
   refine wt 8 (tf 9 11) z z z (by kernel_rfl) H (fun w H=>(r_iaddrA c_ar_86 z z g14 g15)) (wa_one (i:=9) (l':=(tf 10 11)) z z z (by kernel_rfl) (y_told H 0 z c_en_92 z g12 g13 g14 g15 (fun w H=>⟨fun _=>H.sel [0,1] z z,(wt 10 (tf 11 11) z z z (by kernel_rfl) (H.sel [0,1] z z) (fun w H=>(sg (.int .i64 (at_ 0 n0_ (cix a1.1 a1.2))) z)) (wa_done (by kernel_rfl) (n_thn (wc_ret ?_))))⟩)))
   cases E
   exact ⟨.inl z,_,tk0 z ⟨resN z (rv_t rv_nil),_,z,H.sub1 0 z⟩⟩
end Go.Proofs.YtkndgkbgbmhjoaaGreatDoor.Gw
