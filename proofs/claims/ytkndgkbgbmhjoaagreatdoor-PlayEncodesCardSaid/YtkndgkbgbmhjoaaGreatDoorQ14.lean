/- The card of the law that what a desk encodes is read back from what it tells: a part of its proof. The conditions are those of the statement. -/
import Derived.Test.YtkndgkbgbmhjoaaGreatDoorQ4
import Derived.Test.YtkndgkbgbmhjoaaGreatDoorQ3
import Derived.Test.YtkndgkbgbmhjoaaGreatDoorQ12
import Derived.Test.YtkndgkbgbmhjoaaGreatDoorQ11
import Derived.Test.YtkndgkbgbmhjoaaGreatDoorQ13
namespace Go.Proofs.YtkndgkbgbmhjoaaGreatDoor.Gw
open Go Go.RowKit
set_option linter.unusedVariables false
set_option linter.unusedSimpArgs false
set_option linter.unusedSectionVars false
variable [LibO]
set_option linter.unnecessarySimpa false
set_option maxRecDepth 100000
set_option maxHeartbeats 4000000
open Go.IntKind (i8 i16 i32 i64 u8 u16 u32 u64)
def chien_Places.j0 (l1r : (Int × Int × Int) → List (Int) → List (Int) → List (Int) → Int → Option (List Int)) (k : Nat) (a1 : Int × Int × Int) (x544 : List Int) (l575 : List (Int)) : Option (List Int):=l1r a1 l575 x544 ([] : List (Int)) 0
def chien_Places.j2 (l1r : (Int × Int × Int) → List (Int) → List (Int) → List (Int) → Int → Option (List Int)) (k : Nat) (a1 : Int × Int × Int) (l575 : List (Int)) (l667 : List (Int)) (x670 : Int) (l751 : List (Int)) : Option (List Int):=(field_Field_Pairs.f l667 l575).bind fun x762=>l1r a1 l575 x762 l751 (i64.wrap (x670 + 1))
def chien_Places.j1 (l1r : (Int × Int × Int) → List (Int) → List (Int) → List (Int) → Int → Option (List Int)) (k : Nat) (a1 : Int × Int × Int) (l575 : List (Int)) (l667 : List (Int)) (l669 : List (Int)) (x670 : Int) (x723 : Int) : Option (List Int):=bif decide (x723 = 0) then (grd (decide ((l669.length + ([x670]).length) * 8 ≤ 140737488355328)) (chien_Places.j2 l1r k a1 l575 l667 x670 (l669 ++ ([x670])))) else (chien_Places.j2 l1r k a1 l575 l667 x670 l669)
mutual
def chien_Places.l0 : Nat → (Int × Int × Int) → List Int → List Int → List (Int) → Int → Option (List Int)
 | 0,_,_,_,_,_=>none
 | k + 1,a1,a2,x544,l585,x586=>bif decide (x586 < ((List.replicate (a2.length : Int).toNat (0 : Int)).length : Int)) then ((code_Point.f (i64.wrap (-x586))).bind fun x598=>grd (decide ((0 : Int) ≤ x586 ∧ x586 < (l585.length : Int))) (chien_Places.l0 k a1 a2 x544 (l585.set x586.toNat x598) (i64.wrap (x586 + 1)))) else (chien_Places.j0 (chien_Places.l1 k) k a1 x544 l585)
def chien_Places.l1 : Nat → (Int × Int × Int) → List (Int) → List (Int) → List (Int) → Int → Option (List Int)
 | 0,_,_,_,_,_=>none
 | k + 1,a1,l575,l667,l669,x670=>bif decide (x670 < a1.1) then (chien_Places.l2 k a1 l575 l667 l669 x670 0 0) else (some l669)
def chien_Places.l2 : Nat → (Int × Int × Int) → List (Int) → List (Int) → List (Int) → Int → Int → Int → Option (List Int)
 | 0,_,_,_,_,_,_,_=>none
 | k + 1,a1,l575,l667,l669,x670,x730,x731=>bif decide (x731 < (l667.length : Int)) then (grd (decide ((0 : Int) ≤ x731 ∧ x731 < (l667.length : Int))) (chien_Places.l2 k a1 l575 l667 l669 x670 (bits .xor .u8 x730 (at_ 0 l667 x731)) (i64.wrap (x731 + 1)))) else (chien_Places.j1 (chien_Places.l1 k) k a1 l575 l667 l669 x670 x730)
end
def chien_Places.f (k : Nat) (a1 : Int × Int × Int) (a2 : List Int) : Option (List Int):=(code_Right.f (a1.1,a1.2.1,a1.2.2)).bind fun x5=>bif !decide (x5 = 0) then (some ([] : List (Int))) else ((slices_Clone.f a2).bind fun x544=>grd (decide ((0 : Int) ≤ (a2.length : Int) ∧ (a2.length : Int) ≤ (a2.length : Int) ∧ (a2.length : Int) ≤ 140737488355328)) (chien_Places.l0 k a1 a2 x544 (List.replicate (a2.length : Int).toNat (0 : Int)) 0))
theorem chien_Places.calls {w0 : World} {k : Nat} {f0_ : FD} {a1 : Int × Int × Int} {a2 : List Int} {v2_ : Value} {r : List Int} (hf : (Rs.fld f0_).inv w0) (h2 : Rd (.of (.int .u8)) w0 (Ol (Rs.fld f0_).fp w0) v2_ a2) (E : chien_Places.f k a1 a2 = some r) :
   Calls Tryz.prog 233 #[pt f0_.p,.agg #[.int .i64 a1.1,.int .i64 a1.2.1,.int .i64 a1.2.2],v2_] w0 fun e w'=>∃ (u0 : Value),e = .returned (u0) ∧ St (Rs.fld f0_).fp w0 w' [.fld f0_,.own (.int .i64) 3 u0 r]:=by
 have H:=St.start hf
 unfold chien_Places.f at E
 refine calls_of_wc (N:=20) (args:=[pt f0_.p,.agg #[.int .i64 a1.1,.int .i64 a1.2.1,.int .i64 a1.2.2],v2_]) Tryz.func233 z z (by simp) ?_
 refine rg (e_ z (y_boxS (cs:=#[.int .i64 a1.1,.int .i64 a1.2.1,.int .i64 a1.2.2]) H z (fun b1 w H=>(v_ z (sg (.slice none 0 0) z) (nl (wc_seq (rg (v_ z (mv (pt f0_.p) z) (v_ z (r_peql0 Tryz.underlying79 z z) (v_ z (mv (.bool false) z) (on_ z z z (r_loadB (l:=[.int .i64 a1.1,.int .i64 a1.2.1,.int .i64 a1.2.2]) e_ag_24 (H.get 1 z) z z z) ?_)))))))))))
 obtain ⟨x5,E6,E⟩:=bind_some E
 refine wl_on z z z (y_callL e_en_38 z ((code_Right.calls E6).mono ?_))
 rintro _ w ⟨rfl,K⟩
 have H:=H.app K
 refine ⟨_,z,(on_ z z z (r_neq z z) (v_ z (pF (.bool (!decide (x5 = 0))) z z z) (nl ?_)))⟩
 refine wc_cond z (fun c7=>?_) (fun c7=>?_)
 · have E:=iT c7 E
   refine rg (v_ z (sg (.slice none 0 0) z) (nl (wc_ret ?_)))
   have H:=H.nilOwn (.int .i64) 3
   cases E
   exact (r_thn ⟨.inl z,_,tk0 z ⟨resN z (rv_t rv_nil),_,z,H.sub2 0 2 z z z⟩⟩)
 · have E:=iF c7 E
   refine wc_skip (n_thn (rg (v_ z (mv (pt f0_.p) z) (v_ z (r_faddr e_fa_24_0 z) (v_ z (r_load e_sc_3 z (blk_cell (H.get 1 z) z)) (v_ z (mv v2_ z) (e_ z (y_in 8 [pt f0_.p,.int .i64 a1.1,v2_] e_en_279 Tryz.func279 z z z z (rg (e_ z (y_boxS (cs:=#[pt f0_.p]) H z (fun b14 w H=>(e_ z (y_boxS (cs:=#[.int .i64 a1.1]) H z (fun b15 w H=>?_)))))))))))))))
   obtain ⟨p16,n17,c18,rfl⟩:=rd_form h2
   refine e_ z (y_boxS (cs:=#[(.slice p16 n17 c18)]) H z (fun b19 w H=>?_))
   have H : St (Rs.fld f0_).fp w0 _ [.fld f0_,.blk b1 #[.int .i64 a1.1,.int .i64 a1.2.1,.int .i64 a1.2.2] 24,.blk b14 #[pt f0_.p] 79,.blk b15 #[.int .i64 a1.1] 3,.blk b19 #[(.slice p16 n17 c18)] 22]:=H
   refine v_ z (sg (.nilFunc) z) (nl (rg (v_ z (r_mkf [pt b19,pt b14,pt b15] z) (v_ z (sg (.func (.func 312) #[] #[pt b19,pt b14,pt b15]) z) (nl (wc_ret (⟨.inl z,.func (.func 312) #[] #[pt b19,pt b14,pt b15],tk0 z ⟨resM z (rv_t rv_nil) z,(e_ z (y_in 5 [.func (.func 312) #[] #[pt b19,pt b14,pt b15]] e_en_147 Tryz.func147 z z z z (rg (v_ z (sg (.slice none 0 0) z) (nl (rg (v_ z (mv (.func (.func 312) #[] #[pt b19,pt b14,pt b15]) z) (e_ z (y_in 13 [.slice none 0 0,.func (.func 312) #[] #[pt b19,pt b14,pt b15]] e_en_200 Tryz.func200 z z z z ?_)))))))))⟩⟩)))))))
   have H:=H.mk0
   refine rg (e_ z (y_boxS (cs:=#[.slice none 0 0]) H z (fun b539 w H=>(v_ z (sg (.slice none 0 0) z) (nl (wc_seq (rg (v_ z (mv (.func (.func 312) #[] #[pt b19,pt b14,pt b15]) z) (nl (wc_block (wc_rf 57 [pt b19,pt b14,pt b15] z Tryz.func312 z z z z z H 5 z z (fun v543 b540 o541 w hO542 H=>(rg (v_ z (r_load e_sc_22 z (blk_cell (H.get 4 z) z)) ?_))))))))))))))
   obtain ⟨x544,E545,E⟩:=bind_some E
   refine e_ z (y_callL e_en_84 z ((slices_Clone.calls (H.arg (H.rd h2)) E545).mono ?_))
   rintro _ w ⟨v546,rfl,K⟩
   have H:=H.app K
   refine ⟨_,z,(v_ z (sg v546 z) (nl (rg (v_ z (r_load e_sc_22 z (blk_cell (H.get 4 z) z)) (v_ z (r_lenR e_ul_22 (H.rd h2) z) ?_)))))⟩
   obtain ⟨⟨g548,g549,g550⟩,E⟩:=grd_some E
   refine e_ z (y_make (e:=(.int .u8)) (z0:=0) e_sl_22 z H z z g548 g549 (by omega) (by omega) (fun v547 w H=>(v_ z (sg v547 z) (nl ?_))))
   refine wc_seqJ (fun t w=>∃ (k577 : Nat) (l575 : List (Int)) (t576 : Fr),k577 ≤ k ∧ chien_Places.j0 (chien_Places.l1 k577) k577 a1 x544 l575 = some r ∧ t = upds t576 [(0,.func (.yield b540) #[] #[]),(2,pt b14),(3,pt b15),(5,v546),(6,v547),(1000000,undef)] ∧ St (Rs.fld f0_).fp w0 w [.fld f0_,.blk b1 #[.int .i64 a1.1,.int .i64 a1.2.1,.int .i64 a1.2.2] 24,.blk b14 #[pt f0_.p] 79,.blk b15 #[.int .i64 a1.1] 3,.blk b19 #[(.slice p16 n17 c18)] 22,.mks v543,.blk b539 #[.slice none 0 0] 45,.obj b540 (.loop o541),.own (.int .u8) 5 v546 x544,.own (.int .u8) 5 v547 l575]) ?_ ?_
   · refine rg (v_ z (mv v547 z) (v_ z (r_lenR e_ul_22 (own_rd (H.get 9 z)) z) (v_ z (mv (.int .i64 0) z) (nl (wc_block ?_)))))
     refine wc_loop (fun kk t w=>∃ (l585 : List (Int)) (x586 : Int) (t595 : Fr),kk ≤ k ∧ chien_Places.l0 kk a1 a2 x544 l585 x586 = some r ∧ t = upds t595 [(0,.func (.yield b540) #[] #[]),(2,pt b14),(3,pt b15),(5,v546),(6,v547),(18,.int .i64 (((List.replicate (a2.length : Int).toNat (0 : Int)).length : Int))),(19,.int .i64 x586),(1000000,undef)] ∧ St (Rs.fld f0_).fp w0 w [.fld f0_,.blk b1 #[.int .i64 a1.1,.int .i64 a1.2.1,.int .i64 a1.2.2] 24,.blk b14 #[pt f0_.p] 79,.blk b15 #[.int .i64 a1.1] 3,.blk b19 #[(.slice p16 n17 c18)] 22,.mks v543,.blk b539 #[.slice none 0 0] 45,.obj b540 (.loop o541),.own (.int .u8) 5 v546 x544,.own (.int .u8) 5 v547 l585]) k ?_ ?_
     · exact ⟨_,_,_,Nat.le_refl _,E,upds_eq ⟨z,z,z,z,z,z,z,z,trivial⟩,H⟩
     rintro kk t w ⟨l585,x586,t595,hk594,E,rfl,H⟩
     obtain ⟨k593,rfl⟩ | rfl : (∃ k',kk = k' + 1) ∨ kk = 0:=by cases kk; exact .inr rfl; exact .inl ⟨_,rfl⟩
     rotate_left
     · cases E
     rw [chien_Places.l0] at E
     refine rg (v_ z (r_lss z z) (nl (wc_seq ?_)))
     refine wc_cond z (fun c597=>?_) (fun c597=>?_)
     · have E:=iT c597 E
       refine wc_skip (n_thn (wc_seq (wc_block (rg (v_ z (mv (.int .i64 x586) z) (v_ z (sg (.int .i64 x586) z) (nl (wc_region (v_ z (mv v547 z) (v_ z (mv (.int .i64 x586) z) (v_ z (r_load e_sc_79 z (blk_cell (H.get 2 z) z)) (v_ z (mv (.int .i64 x586) z) (v_ z (r_neg z) ?_)))))))))))))
       obtain ⟨x598,E599,E⟩:=bind_some E
       refine e_ z (y_callL e_en_140 z ((code_Point.calls (H.get 0 z) E599).mono ?_))
       rintro _ w ⟨rfl,K⟩
       have H:=H.appX 0 z K
       refine ⟨_,z,?_⟩
       obtain ⟨⟨g600,g601⟩,E⟩:=grd_some E
       refine v_ z (r_idx e_sl_22 (own_rd (H.get 9 z)) z z g600 g601) (s_ (y_storeI e_sz_5 H 9 z g600 g601 z z (fun w H=>(wl_nil (n_bk (n_thn (wc_region (v_ z (r_add z z) (v_ z (mv (.int .i64 (i64.wrap (x586 + 1))) z) (wl_nil ?_))))))))))
       exact ⟨k593,Nat.lt_succ_self _,_,_,_,Nat.le_of_succ_le hk594,E,upds_eq ⟨z,z,z,z,z,z,z,z,trivial⟩,H⟩
     · have E:=iF c597 E
       refine wc_exit (x_thn (x_thn (x_bk ?_)))
       exact ⟨k593,_,_,by omega,E,upds_eq ⟨z,z,z,z,z,z,trivial⟩,H⟩
   rintro t w ⟨k577,l575,t576,hk578,E,rfl,H⟩
   unfold chien_Places.j0 at E
   refine rg (v_ z (r_load e_sc_3 z (blk_cell (H.get 3 z) z)) (v_ z (mv (.int .i64 0) z) (nl (wc_block ?_))))
   have H:=H.nilOwn (.int .i64) 3
   refine wc_loop (fun kk t w=>∃ (l667 : List (Int)) (l669 : List (Int)) (x670 : Int) (v666 : Value) (v668 : Value) (t705 : Fr),kk ≤ k577 ∧ chien_Places.l1 kk a1 l575 l667 l669 x670 = some r ∧ t = upds t705 [(0,.func (.yield b540) #[] #[]),(2,pt b14),(5,v666),(6,v547),(30,.int .i64 a1.1),(31,.int .i64 x670),(1000000,undef)] ∧ St (Rs.fld f0_).fp w0 w [.fld f0_,.blk b1 #[.int .i64 a1.1,.int .i64 a1.2.1,.int .i64 a1.2.2] 24,.blk b14 #[pt f0_.p] 79,.blk b15 #[.int .i64 a1.1] 3,.blk b19 #[(.slice p16 n17 c18)] 22,.mks v543,.blk b539 #[v668] 45,.obj b540 (.loop o541),.own (.int .u8) 5 v666 l667,.own (.int .u8) 5 v547 l575,.own (.int .i64) 3 v668 l669]) k577 ?_ ?_
   · exact ⟨_,_,_,_,_,_,Nat.le_refl _,E,upds_eq ⟨z,z,z,z,z,z,z,trivial⟩,H⟩
   rintro kk t w ⟨l667,l669,x670,v666,v668,t705,hk704,E,rfl,H⟩
   obtain ⟨k703,rfl⟩ | rfl : (∃ k',kk = k' + 1) ∨ kk = 0:=by cases kk; exact .inr rfl; exact .inl ⟨_,rfl⟩
   rotate_left
   · cases E
   rw [chien_Places.l1] at E
   refine rg (v_ z (r_lss z z) (nl (wc_seq ?_)))
   refine wc_cond z (fun c707=>?_) (fun c707=>?_)
   · have E:=iT c707 E
     refine wc_skip (n_thn (wc_seq (wc_block (rg (v_ z (mv (.int .i64 x670) z) (v_ z (sg (.int .i64 x670) z) (nl (rg (v_ z (sg (.int .u8 0) z) (nl ?_))))))))))
     refine wc_seqJ (fun t w=>∃ (k725 : Nat) (x723 : Int) (t724 : Fr),k725 ≤ k703 ∧ chien_Places.j1 (chien_Places.l1 k725) k725 a1 l575 l667 l669 x670 x723 = some r ∧ t = upds t724 [(0,.func (.yield b540) #[] #[]),(2,pt b14),(5,v666),(6,v547),(8,.int .i64 x670),(9,.int .u8 x723),(30,.int .i64 a1.1),(31,.int .i64 x670),(1000000,undef)] ∧ St (Rs.fld f0_).fp w0 w [.fld f0_,.blk b1 #[.int .i64 a1.1,.int .i64 a1.2.1,.int .i64 a1.2.2] 24,.blk b14 #[pt f0_.p] 79,.blk b15 #[.int .i64 a1.1] 3,.blk b19 #[(.slice p16 n17 c18)] 22,.mks v543,.blk b539 #[v668] 45,.obj b540 (.loop o541),.own (.int .u8) 5 v666 l667,.own (.int .u8) 5 v547 l575,.own (.int .i64) 3 v668 l669]) ?_ ?_
     · refine rg (v_ z (mv v666 z) (v_ z (r_lenR e_ul_22 (own_rd (H.get 8 z)) z) (v_ z (mv (.int .i64 0) z) (nl (wc_block ?_)))))
       refine wc_loop (fun kk t w=>∃ (x730 : Int) (x731 : Int) (t737 : Fr),kk ≤ k703 ∧ chien_Places.l2 kk a1 l575 l667 l669 x670 x730 x731 = some r ∧ t = upds t737 [(0,.func (.yield b540) #[] #[]),(2,pt b14),(5,v666),(6,v547),(8,.int .i64 x670),(9,.int .u8 x730),(30,.int .i64 a1.1),(31,.int .i64 x670),(34,v666),(35,.int .i64 (l667.length : Int)),(36,.int .i64 x731),(1000000,undef)] ∧ St (Rs.fld f0_).fp w0 w [.fld f0_,.blk b1 #[.int .i64 a1.1,.int .i64 a1.2.1,.int .i64 a1.2.2] 24,.blk b14 #[pt f0_.p] 79,.blk b15 #[.int .i64 a1.1] 3,.blk b19 #[(.slice p16 n17 c18)] 22,.mks v543,.blk b539 #[v668] 45,.obj b540 (.loop o541),.own (.int .u8) 5 v666 l667,.own (.int .u8) 5 v547 l575,.own (.int .i64) 3 v668 l669]) k703 ?_ ?_
       · exact ⟨_,_,_,Nat.le_refl _,E,upds_eq ⟨z,z,z,z,z,z,z,z,z,z,z,z,trivial⟩,H⟩
       rintro kk t w ⟨x730,x731,t737,hk736,E,rfl,H⟩
       obtain ⟨k735,rfl⟩ | rfl : (∃ k',kk = k' + 1) ∨ kk = 0:=by cases kk; exact .inr rfl; exact .inl ⟨_,rfl⟩
       rotate_left
       · cases E
       rw [chien_Places.l2] at E
       refine rg (v_ z (r_lss z z) (nl (wc_seq ?_)))
       refine wc_cond z (fun c738=>?_) (fun c738=>?_)
       · have E:=iT c738 E
         refine wc_skip (n_thn (wc_seq (wc_block (rg ?_))))
         obtain ⟨⟨g739,g740⟩,E⟩:=grd_some E
         refine v_ z (r_idx e_sl_22 (own_rd (H.get 8 z)) z z g739 g740) (v_ z (r_ldI e_sc_5 (own_rd (H.get 8 z)) g739 g740 z) (v_ z (sg (.int .u8 (at_ 0 l667 x731)) z) (nl (wc_region (v_ z (mv (.int .u8 x730) z) (v_ z (mv (.int .u8 (at_ 0 l667 x731)) z) (v_ z (r_xor z z) (v_ z (sg (.int .u8 (bits .xor .u8 x730 (at_ 0 l667 x731))) z) (wl_nil (n_bk (n_thn (wc_region (v_ z (r_add z z) (v_ z (mv (.int .i64 (i64.wrap (x731 + 1))) z) (wl_nil ?_)))))))))))))))
         exact ⟨k735,Nat.lt_succ_self _,_,_,_,Nat.le_of_succ_le hk736,E,upds_eq ⟨z,z,z,z,z,z,z,z,z,z,z,z,trivial⟩,H⟩
       · have E:=iF c738 E
         refine wc_exit (x_thn (x_thn (x_bk ?_)))
         exact ⟨k735,_,_,by omega,E,upds_eq ⟨z,z,z,z,z,z,z,z,z,trivial⟩,H⟩
     rintro t w ⟨k725,x723,t724,hk726,E,rfl,H⟩
     unfold chien_Places.j1 at E
     refine wc_seqJ (fun t w=>∃ (k753 : Nat) (l751 : List (Int)) (v750 : Value) (t752 : Fr),k753 ≤ k725 ∧ chien_Places.j2 (chien_Places.l1 k753) k753 a1 l575 l667 x670 l751 = some r ∧ t = upds t752 [(0,.func (.yield b540) #[] #[]),(2,pt b14),(5,v666),(6,v547),(30,.int .i64 a1.1),(31,.int .i64 x670),(1000000,undef)] ∧ St (Rs.fld f0_).fp w0 w [.fld f0_,.blk b1 #[.int .i64 a1.1,.int .i64 a1.2.1,.int .i64 a1.2.2] 24,.blk b14 #[pt f0_.p] 79,.blk b15 #[.int .i64 a1.1] 3,.blk b19 #[(.slice p16 n17 c18)] 22,.mks v543,.blk b539 #[v750] 45,.obj b540 (.loop o541),.own (.int .u8) 5 v666 l667,.own (.int .u8) 5 v547 l575,.own (.int .i64) 3 v750 l751]) ?_ ?_
     · refine rg (v_ z (mv (.int .u8 x723) z) (v_ z (r_eql z z) (v_ z (mv (.bool (decide (x723 = 0))) z) ?_)))
       rcases Bool.eq_false_or_eq_true (decide (x723 = 0)) with c755 | c755
       · have E:=iT c755 E
         refine on_ c755 z z (mv (.func (.yield b540) #[] #[]) z) (on_ c755 z z (mv (.int .i64 x670) z) (wl_on z c755 z (y_yld [.int .i64 x670] z z H 7 z hO542 z z (wc_region (v_ z (sg (.int .i64 x670) z) (wl_nil (yB H 7 z hO542 (fun w H=>(wc_block (wc_region (v_ z (r_load e_sc_45 z (blk_cell (H.get 6 z) z)) (v_ z (mv (.int .i64 x670) z) (e_ z (y_bsL (e:=(.int .i64)) (l:=[x670]) e_sl_45 H z (by decide) ⟨z,z,trivial⟩ (by decide) (fun v756 w H=>?_)))))))))))))))
         obtain ⟨g758,E⟩:=grd_some E
         refine e_ z (y_app e_sl_45 H 10 z (own_rd (H.get 11 z)) z z (by omega) (by unfold maxLen; omega) (fun v757 w H=>?_))
         obtain ⟨p759,n760,c761,rfl⟩:=own_form (H.get 10 z)
         refine s_ (y_storeB e_sz_45 H 6 z z z z z (fun w H=>(wl_nil (n_bk (yN H 7 z hO542 (fun w H=>(on_ c755 z z (rv_eq (v':=.bool false) (r_not z) z) (v_ z (pT (.bool false) z z c755) (nl (wc_condF z (wc_skip ?_)))))))))))
         exact ⟨k725,_,_,_,Nat.le_refl _,E,upds_eq ⟨z,z,z,z,z,z,z,trivial⟩,H.sel [0,1,2,3,4,5,6,7,8,9,10] z z⟩
       · have E:=iF c755 E
         refine off_ c755 z z z (off_ c755 z z z (off_ c755 z z z (off_ c755 z z z (v_ z (pF (.bool false) z z c755) (nl (wc_condF z (wc_skip ?_)))))))
         exact ⟨k725,_,_,_,Nat.le_refl _,E,upds_eq ⟨z,z,z,z,z,z,z,trivial⟩,H⟩
     rintro t w ⟨k753,l751,v750,t752,hk754,E,rfl,H⟩
     unfold chien_Places.j2 at E
     refine wc_region (v_ z (r_load e_sc_79 z (blk_cell (H.get 2 z) z)) (v_ z (mv v666 z) (v_ z (mv v547 z) ?_)))
     obtain ⟨x762,E763,E⟩:=bind_some E
     refine e_ z (y_callL e_en_248 z ((field_Field_Pairs.calls (H.get 0 z) (H.ownX 8 0 z z z (own_rd (H.get 8 z))) (H.ownX 9 0 z z z (own_rd (H.get 9 z))) E763).mono ?_))
     rintro _ w ⟨v764,rfl,K⟩
     have H:=H.appX 0 z K
     refine ⟨_,z,(v_ z (sg v764 z) (wl_nil (n_bk (n_thn (wc_region (v_ z (r_add z z) (v_ z (mv (.int .i64 (i64.wrap (x670 + 1))) z) (wl_nil ?_))))))))⟩
     exact ⟨k753,by omega,_,_,_,_,_,_,by omega,E,upds_eq ⟨z,z,z,z,z,z,z,trivial⟩,H.sel [0,1,2,3,4,5,6,7,11,9,10] z z⟩
   · have E:=iF c707 E
     refine wc_exit (x_thn (x_thn (x_bk (⟨.inr z,.tuple #[],tk0 z ⟨resM z rv_nil z,(el_n H 7 z hO542 (fun w H=>(n_bk (n_thn (rg (v_ z (r_load e_sc_45 z (blk_cell (H.get 6 z) z)) (v_ z (sg v668 z) (nl (wc_ret (⟨.inl z,v668,tkA H 5 z z (fun w H=>⟨resM z (rv_t rv_nil) z,(v_ z (sg v668 z) (nl (wc_ret (⟨.inl z,v668,tk0 z ⟨resM z (rv_t rv_nil) z,(v_ z (sg v668 z) (nl (wc_ret ?_)))⟩⟩))))⟩)⟩))))))))))⟩⟩))))
     cases E
     exact ⟨.inl z,_,tk0 z ⟨resN z (rv_t rv_nil),_,z,H.sub2 0 10 z z z⟩⟩
def value_Derive.l0 : Nat → List Int → List (Int) → Int → Option (List Int)
 | 0,_,_,_=>none
 | k + 1,x8,l16,x17=>bif decide (x17 < (x8.length : Int)) then (bif decide (Int.tmod x17 2 = 1) then (grd (decide ((0 : Int) ≤ x17 ∧ x17 < (l16.length : Int))) (value_Derive.l0 k x8 (l16.set x17.toNat 0) (i64.wrap (x17 + 1)))) else (value_Derive.l0 k x8 l16 (i64.wrap (x17 + 1)))) else ((poly_Norm.f k l16).bind fun x31=>some x31)
def value_Derive.f (k : Nat) (a0 : List Int) : Option (List Int):=bif decide ((a0.length : Int) = 0) then (some ([] : List (Int))) else (grd (decide ((0 : Int) ≤ 1 ∧ 1 ≤ (a0.length : Int))) ((slices_Clone.f ((a0.take a0.length).drop ((1 : Int).toNat))).bind fun x8=>value_Derive.l0 k x8 x8 0))
theorem value_Derive.calls {w0 : World} {k : Nat} {a0 : List Int} {v0_ : Value} {r : List Int} (h0 : Rd (.of (.int .u8)) w0 (Ol no w0) v0_ a0) (E : value_Derive.f k a0 = some r) :
   Calls Tryz.prog 240 #[v0_] w0 fun e w'=>∃ (u0 : Value),e = .returned (u0) ∧ St no w0 w' [.own (.int .u8) 5 u0 r]:=by
 have H:=St.nil no w0
 unfold value_Derive.f at E
 refine calls_of_wc (N:=25) (args:=[v0_]) Tryz.func240 z z (by simp) ?_
 refine rg (v_ z (sg (.slice none 0 0) z) (nl (wc_seq (rg (v_ z (mv v0_ z) (v_ z (r_lenR e_ul_22 (H.rd h0) z) (v_ z (r_eql z z) (nl ?_))))))))
 refine wc_cond z (fun c2=>?_) (fun c2=>?_)
 · have E:=iT c2 E
   refine rg (v_ z (sg (.slice none 0 0) z) (nl (wc_ret ?_)))
   have H:=H.nilOwn (.int .u8) 5
   cases E
   exact (r_thn ⟨.inl z,_,tk0 z ⟨resN z (rv_t rv_nil),_,z,H.sub1 0 z⟩⟩)
 · have E:=iF c2 E
   refine wc_skip (n_thn (rg (v_ z (mv v0_ z) ?_)))
   obtain ⟨⟨g3,g4⟩,E⟩:=grd_some E
   have p6 : (1 : Int).toNat ≤ a0.length:=by omega
   have p7 : a0.length ≤ a0.length:=by omega
   refine v_ z (r_slcLR e_sl_22 (H.rd h0) z z g3 g4) ?_
   obtain ⟨x8,E9,E⟩:=bind_some E
   refine e_ z (y_callL e_en_84 z ((slices_Clone.calls (H.arg (Rd.slv (H.rd h0) p6 p7)) E9).mono ?_))
   rintro _ w ⟨v10,rfl,K⟩
   have H:=H.app K
   refine ⟨_,z,(v_ z (sg v10 z) (nl (wc_seq (rg (v_ z (mv v10 z) (v_ z (r_lenR e_ul_22 (own_rd (H.get 0 z)) z) (v_ z (mv (.int .i64 0) z) (nl (wc_block ?_)))))))))⟩
   refine wc_loop (fun kk t w=>∃ (l16 : List (Int)) (x17 : Int) (t25 : Fr),kk ≤ k ∧ value_Derive.l0 kk x8 l16 x17 = some r ∧ t = upds t25 [(2,.slice none 0 0),(3,v10),(12,.int .i64 (x8.length : Int)),(13,.int .i64 x17),(1000000,undef)] ∧ St no w0 w [.own (.int .u8) 5 v10 l16]) k ?_ ?_
   · exact ⟨_,_,_,Nat.le_refl _,E,upds_eq ⟨z,z,z,z,z,trivial⟩,H⟩
   rintro kk t w ⟨l16,x17,t25,hk24,E,rfl,H⟩
   obtain ⟨k23,rfl⟩ | rfl : (∃ k',kk = k' + 1) ∨ kk = 0:=by cases kk; exact .inr rfl; exact .inl ⟨_,rfl⟩
   rotate_left
   · cases E
   rw [value_Derive.l0] at E
   refine rg (v_ z (r_lss z z) (nl (wc_seq ?_)))
   refine wc_cond z (fun c27=>?_) (fun c27=>?_)
   · have E:=iT c27 E
     refine wc_skip (n_thn (wc_seq (wc_block (rg (v_ z (mv (.int .i64 x17) z) (v_ z (sg (.int .i64 x17) z) (nl (rg (v_ z (mv (.int .i64 x17) z) (v_ z (r_rem z z (by decide)) (v_ z (r_eql z z) (nl ?_))))))))))))
     refine wc_cond z (fun c28=>?_) (fun c28=>?_)
     · have E:=iT c28 E
       refine wc_region (v_ z (mv v10 z) (v_ z (mv (.int .i64 x17) z) ?_))
       obtain ⟨⟨g29,g30⟩,E⟩:=grd_some E
       refine v_ z (r_idx e_sl_22 (own_rd (H.get 0 z)) z z g29 g30) (s_ (y_storeI e_sz_5 H 0 z g29 g30 z z (fun w H=>(wl_nil (n_bk (n_thn (wc_region (v_ z (r_add z z) (v_ z (mv (.int .i64 (i64.wrap (x17 + 1))) z) (wl_nil ?_))))))))))
       exact ⟨k23,Nat.lt_succ_self _,_,_,_,Nat.le_of_succ_le hk24,E,upds_eq ⟨z,z,z,z,z,trivial⟩,H⟩
     · have E:=iF c28 E
       refine wc_skip (n_bk (n_thn (wc_region (v_ z (r_add z z) (v_ z (mv (.int .i64 (i64.wrap (x17 + 1))) z) (wl_nil ?_))))))
       exact ⟨k23,Nat.lt_succ_self _,_,_,_,Nat.le_of_succ_le hk24,E,upds_eq ⟨z,z,z,z,z,trivial⟩,H⟩
   · have E:=iF c27 E
     refine wc_exit (x_thn (x_thn (x_bk (n_thn (rg (v_ z (mv v10 z) ?_))))))
     obtain ⟨x31,E32,E⟩:=bind_some E
     refine e_ z (y_callL e_en_222 z ((poly_Norm.calls (H.own 0 z (own_rd (H.get 0 z))) E32).mono ?_))
     rintro _ w ⟨v33,rfl,K⟩
     have H:=H.app K
     refine ⟨_,z,(v_ z (sg v33 z) (nl (wc_ret ?_)))⟩
     cases E
     exact ⟨.inl z,_,tk0 z ⟨resN z (rv_t rv_nil),_,z,H.sub1 1 z⟩⟩
def chien_Values.j0 (l1r : (Int × Int × Int) → List (Int) → List Int → List Int → List (Int) → Int → Option (List Int × Bool)) (k : Nat) (a1 : Int × Int × Int) (a2 : List Int) (a3 : List Int) (l48 : List (Int)) : Option (List Int × Bool):=(value_All.f k a2 l48).bind fun x87=>(value_Derive.f k a3).bind fun x90=>(value_All.f k x90 l48).bind fun x93=>l1r a1 l48 x87 x93 ([] : List (Int)) 0
def chien_Values.j1 (l2r : (Int × Int × Int) → List (Int) → List (Int) → Int → Option (List Int × Bool)) (k : Nat) (a1 : Int × Int × Int) (l48 : List (Int)) (l154 : List (Int)) (x155 : Bool) : Option (List Int × Bool):=bif !x155 then (some (([] : List (Int)),false)) else (l2r a1 l48 l154 0)
mutual
def chien_Values.l0 : Nat → (Int × Int × Int) → List Int → List Int → List Int → List (Int) → Int → Option (List Int × Bool)
 | 0,_,_,_,_,_,_=>none
 | k + 1,a1,a2,a3,a4,l62,x63=>bif decide (x63 < (a4.length : Int)) then (grd (decide ((0 : Int) ≤ x63 ∧ x63 < (a4.length : Int))) ((code_Point.f (at_ 0 a4 x63)).bind fun x81=>(field_Field_Pow.f x81 (-1)).bind fun x83=>grd (decide ((0 : Int) ≤ x63 ∧ x63 < (l62.length : Int))) (chien_Values.l0 k a1 a2 a3 a4 (l62.set x63.toNat x83) (i64.wrap (x63 + 1))))) else (chien_Values.j0 (chien_Values.l1 k) k a1 a2 a3 l62)
def chien_Values.l1 : Nat → (Int × Int × Int) → List (Int) → List Int → List Int → List (Int) → Int → Option (List Int × Bool)
 | 0,_,_,_,_,_,_=>none
 | k + 1,a1,l48,x87,x93,l183,x184=>bif decide (x184 < min2 (x87.length : Int) (x93.length : Int)) then (grd (decide ((0 : Int) ≤ x184 ∧ x184 < (x87.length : Int))) (grd (decide ((0 : Int) ≤ x184 ∧ x184 < (x93.length : Int))) ((field_Field_Div.f (at_ 0 x87 x184) (at_ 0 x93 x184)).bind fun x206=>bif !x206.2 then (chien_Values.j1 (chien_Values.l2 k) k a1 l48 ([] : List (Int)) false) else (grd (decide ((l183.length + ([x206.1]).length) * 1 ≤ 140737488355328)) (chien_Values.l1 k a1 l48 x87 x93 (l183 ++ ([x206.1])) (i64.wrap (x184 + 1))))))) else (chien_Values.j1 (chien_Values.l2 k) k a1 l48 l183 true)
def chien_Values.l2 : Nat → (Int × Int × Int) → List (Int) → List (Int) → Int → Option (List Int × Bool)
 | 0,_,_,_,_=>none
 | k + 1,a1,l48,l226,x227=>bif decide (x227 < (l48.length : Int)) then (grd (decide ((0 : Int) ≤ x227 ∧ x227 < (l48.length : Int))) (grd (decide ((0 : Int) ≤ x227 ∧ x227 < (l226.length : Int))) ((field_Field_Pow.f (at_ 0 l48 x227) (i64.wrap (a1.2.2 - 1))).bind fun x249=>(field_Field_Mul.f (at_ 0 l226 x227) x249).bind fun x251=>grd (decide ((0 : Int) ≤ x227 ∧ x227 < (l226.length : Int))) (chien_Values.l2 k a1 l48 (l226.set x227.toNat x251) (i64.wrap (x227 + 1)))))) else (some (l226,true))
end
def chien_Values.f (k : Nat) (a1 : Int × Int × Int) (a2 : List Int) (a3 : List Int) (a4 : List Int) : Option (List Int × Bool):=(code_Right.f (a1.1,a1.2.1,a1.2.2)).bind fun x5=>bif !decide (x5 = 0) then (some (([] : List (Int)),false)) else (grd (decide ((0 : Int) ≤ (a4.length : Int) ∧ (a4.length : Int) ≤ (a4.length : Int) ∧ (a4.length : Int) ≤ 140737488355328)) (chien_Values.l0 k a1 a2 a3 a4 (List.replicate (a4.length : Int).toNat (0 : Int)) 0))
theorem chien_Values.calls {w0 : World} {k : Nat} {f0_ : FD} {a1 : Int × Int × Int} {a2 : List Int} {a3 : List Int} {a4 : List Int} {v2_ : Value} {v3_ : Value} {v4_ : Value} {r : List Int × Bool} (hf : (Rs.fld f0_).inv w0) (h2 : Rd (.of (.int .u8)) w0 (Ol (Rs.fld f0_).fp w0) v2_ a2) (h3 : Rd (.of (.int .u8)) w0 (Ol (Rs.fld f0_).fp w0) v3_ a3) (h4 : Rd (.of (.int .i64)) w0 (Ol (Rs.fld f0_).fp w0) v4_ a4) (E : chien_Values.f k a1 a2 a3 a4 = some r) :
   Calls Tryz.prog 234 #[pt f0_.p,.agg #[.int .i64 a1.1,.int .i64 a1.2.1,.int .i64 a1.2.2],v2_,v3_,v4_] w0 fun e w'=>∃ (u0 : Value),e = .returned (.tuple #[u0,.bool r.2]) ∧ St (Rs.fld f0_).fp w0 w' [.fld f0_,.own (.int .u8) 5 u0 r.1]:=by
 have H:=St.start hf
 unfold chien_Values.f at E
 refine calls_of_wc (N:=90) (args:=[pt f0_.p,.agg #[.int .i64 a1.1,.int .i64 a1.2.1,.int .i64 a1.2.2],v2_,v3_,v4_]) Tryz.func234 z z (by simp) ?_
 refine rg (e_ z (y_boxS (cs:=#[.int .i64 a1.1,.int .i64 a1.2.1,.int .i64 a1.2.2]) H z (fun b1 w H=>(v_ z (sg (.slice none 0 0) z) (v_ z (sg (.bool false) z) (nl (wc_seq (rg (v_ z (mv (pt f0_.p) z) (v_ z (r_peql0 Tryz.underlying79 z z) (v_ z (mv (.bool false) z) (on_ z z z (r_loadB (l:=[.int .i64 a1.1,.int .i64 a1.2.1,.int .i64 a1.2.2]) e_ag_24 (H.get 1 z) z z z) ?_))))))))))))
 obtain ⟨x5,E6,E⟩:=bind_some E
 refine wl_on z z z (y_callL e_en_38 z ((code_Right.calls E6).mono ?_))
 rintro _ w ⟨rfl,K⟩
 have H:=H.app K
 refine ⟨_,z,(on_ z z z (r_neq z z) (v_ z (pF (.bool (!decide (x5 = 0))) z z z) (nl ?_)))⟩
 refine wc_cond z (fun c7=>?_) (fun c7=>?_)
 · have E:=iT c7 E
   refine rg (v_ z (sg (.slice none 0 0) z) (v_ z (sg (.bool false) z) (nl (wc_ret ?_))))
   have H:=H.nilOwn (.int .u8) 5
   cases E
   exact (r_thn ⟨.inl z,_,tk0 z ⟨resN z (rv_t (rv_t rv_nil)),_,z,H.sub2 0 2 z z z⟩⟩)
 · have E:=iF c7 E
   refine wc_skip (n_thn (rg (v_ z (mv v4_ z) (v_ z (r_lenR e_ul_45 (H.rd h4) z) ?_))))
   obtain ⟨⟨g9,g10,g11⟩,E⟩:=grd_some E
   refine e_ z (y_make (e:=(.int .u8)) (z0:=0) e_sl_22 z H z z g9 g10 (by omega) (by omega) (fun v8 w H=>(v_ z (sg v8 z) (nl ?_))))
   refine wc_seqJ (fun t w=>∃ (k50 : Nat) (l48 : List (Int)) (t49 : Fr),k50 ≤ k ∧ chien_Values.j0 (chien_Values.l1 k50) k50 a1 a2 a3 l48 = some r ∧ t = upds t49 [(0,pt f0_.p),(2,v2_),(3,v3_),(6,pt b1),(10,.slice none 0 0),(11,.bool false),(12,v8),(1000000,undef)] ∧ St (Rs.fld f0_).fp w0 w [.fld f0_,.blk b1 #[.int .i64 a1.1,.int .i64 a1.2.1,.int .i64 a1.2.2] 24,.own (.int .u8) 5 v8 l48]) ?_ ?_
   · refine rg (v_ z (mv v4_ z) (v_ z (r_lenR e_ul_45 (H.rd h4) z) (v_ z (mv (.int .i64 0) z) (nl (wc_block ?_)))))
     refine wc_loop (fun kk t w=>∃ (l62 : List (Int)) (x63 : Int) (t76 : Fr),kk ≤ k ∧ chien_Values.l0 kk a1 a2 a3 a4 l62 x63 = some r ∧ t = upds t76 [(0,pt f0_.p),(2,v2_),(3,v3_),(6,pt b1),(10,.slice none 0 0),(11,.bool false),(12,v8),(31,v4_),(32,.int .i64 (a4.length : Int)),(33,.int .i64 x63),(1000000,undef)] ∧ St (Rs.fld f0_).fp w0 w [.fld f0_,.blk b1 #[.int .i64 a1.1,.int .i64 a1.2.1,.int .i64 a1.2.2] 24,.own (.int .u8) 5 v8 l62]) k ?_ ?_
     · exact ⟨_,_,_,Nat.le_refl _,E,upds_eq ⟨z,z,z,z,z,z,z,z,z,z,z,trivial⟩,H⟩
     rintro kk t w ⟨l62,x63,t76,hk75,E,rfl,H⟩
     obtain ⟨k74,rfl⟩ | rfl : (∃ k',kk = k' + 1) ∨ kk = 0:=by cases kk; exact .inr rfl; exact .inl ⟨_,rfl⟩
     rotate_left
     · cases E
     rw [chien_Values.l0] at E
     refine rg (v_ z (r_lss z z) (nl (wc_seq ?_)))
     refine wc_cond z (fun c78=>?_) (fun c78=>?_)
     · have E:=iT c78 E
       refine wc_skip (n_thn (wc_seq (wc_block (rg (v_ z (mv (.int .i64 x63) z) ?_)))))
       obtain ⟨⟨g79,g80⟩,E⟩:=grd_some E
       refine v_ z (r_idx e_sl_45 (H.rd h4) z z g79 g80) (v_ z (r_ldI e_sc_3 (H.rd h4) g79 g80 z) (v_ z (sg (.int .i64 x63) z) (v_ z (sg (.int .i64 (at_ 0 a4 x63)) z) (nl (wc_region (v_ z (mv v8 z) (v_ z (mv (.int .i64 x63) z) (v_ z (mv (pt f0_.p) z) (v_ z (mv (pt f0_.p) z) (v_ z (mv (.int .i64 (at_ 0 a4 x63)) z) ?_))))))))))
       obtain ⟨x81,E82,E⟩:=bind_some E
       refine e_ z (y_callL e_en_140 z ((code_Point.calls (H.get 0 z) E82).mono ?_))
       rintro _ w ⟨rfl,K⟩
       have H:=H.appX 0 z K
       refine ⟨_,z,?_⟩
       obtain ⟨x83,E84,E⟩:=bind_some E
       refine e_ z (y_callL e_en_197 z ((field_Field_Pow.calls (H.get 0 z) E84).mono ?_))
       rintro _ w ⟨rfl,K⟩
       have H:=H.appX 0 z K
       refine ⟨_,z,?_⟩
       obtain ⟨⟨g85,g86⟩,E⟩:=grd_some E
       refine v_ z (r_idx e_sl_22 (own_rd (H.get 2 z)) z z g85 g86) (s_ (y_storeI e_sz_5 H 2 z g85 g86 z z (fun w H=>(wl_nil (n_bk (n_thn (wc_region (v_ z (r_add z z) (v_ z (mv (.int .i64 (i64.wrap (x63 + 1))) z) (wl_nil ?_))))))))))
       exact ⟨k74,Nat.lt_succ_self _,_,_,_,Nat.le_of_succ_le hk75,E,upds_eq ⟨z,z,z,z,z,z,z,z,z,z,z,trivial⟩,H⟩
     · have E:=iF c78 E
       refine wc_exit (x_thn (x_thn (x_bk ?_)))
       exact ⟨k74,_,_,by omega,E,upds_eq ⟨z,z,z,z,z,z,z,z,trivial⟩,H⟩
   rintro t w ⟨k50,l48,t49,hk51,E,rfl,H⟩
   unfold chien_Values.j0 at E
   refine rg (v_ z (mv (pt f0_.p) z) (v_ z (mv v2_ z) (v_ z (mv v8 z) ?_)))
   obtain ⟨x87,E88,E⟩:=bind_some E
   refine e_ z (y_callL e_en_78 z ((value_All.calls (H.get 0 z) (H.argX 0 z (H.rd h2)) (H.ownX 2 0 z z z (own_rd (H.get 2 z))) E88).mono ?_))
   rintro _ w ⟨v89,rfl,K⟩
   have H:=H.appX 0 z K
   refine ⟨_,z,(v_ z (mv (pt f0_.p) z) (v_ z (mv v3_ z) ?_))⟩
   obtain ⟨x90,E91,E⟩:=bind_some E
   refine e_ z (y_callL e_en_240 z ((value_Derive.calls (H.arg (H.rd h3)) E91).mono ?_))
   rintro _ w ⟨v92,rfl,K⟩
   have H:=H.app K
   refine ⟨_,z,(v_ z (mv v8 z) ?_)⟩
   obtain ⟨x93,E94,E⟩:=bind_some E
   refine e_ z (y_callL e_en_78 z ((value_All.calls (H.get 0 z) (H.ownX 4 0 z z z (own_rd (H.get 4 z))) (H.ownX 2 0 z z z (own_rd (H.get 2 z))) E94).mono ?_))
   rintro _ w ⟨v95,rfl,K⟩
   have H:=H.appX 0 z K
   refine ⟨_,z,(v_ z (sg v89 z) (v_ z (sg v95 z) (nl (rg (v_ z (mv v89 z) (v_ z (mv v95 z) (v_ z (mv (pt f0_.p) z) (v_ z (r_mkF [pt f0_.p] [] z z) ?_))))))))⟩
   refine e_ z (y_J (fun v w=>∃ (k156 : Nat) (l154 : List (Int)) (x155 : Bool) (v153 : Value),k156 ≤ k50 ∧ chien_Values.j1 (chien_Values.l2 k156) k156 a1 l48 l154 x155 = some r ∧ v = .tuple #[v153,.bool x155] ∧ St (Rs.fld f0_).fp w0 w [.fld f0_,.blk b1 #[.int .i64 a1.1,.int .i64 a1.2.1,.int .i64 a1.2.2] 24,.own (.int .u8) 5 v8 l48,.own (.int .u8) 5 v89 x87,.own (.int .u8) 5 v92 x90,.own (.int .u8) 5 v95 x93,.own (.int .u8) 5 v153 l154]) ?_ ?_)
   · refine (y_in 41 [v89,v95,.func (.func 186) #[pt f0_.p] #[]] e_en_280 Tryz.func280 z z z z (rg (v_ z (sg (.slice none 0 0) z) (v_ z (sg (.bool false) z) (nl (rg (v_ z (sg (.slice none 0 0) z) (nl (wc_seq (rg (v_ z (mv v89 z) (v_ z (r_lenR e_ul_22 (own_rd (H.get 3 z)) z) (v_ z (mv v95 z) (v_ z (r_lenR e_ul_22 (own_rd (H.get 5 z)) z) (v_ z (r_min z z) (v_ z (mv (.int .i64 0) z) (nl (wc_block ?_))))))))))))))))))
     have H:=H.nilOwn (.int .u8) 5
     refine wc_loop (fun kk t w=>∃ (l183 : List (Int)) (x184 : Int) (v182 : Value) (t199 : Fr),kk ≤ k50 ∧ chien_Values.l1 kk a1 l48 x87 x93 l183 x184 = some r ∧ t = upds t199 [(0,v89),(1,v95),(2,.func (.func 186) #[pt f0_.p] #[]),(6,.slice none 0 0),(7,.bool false),(8,v182),(16,.int .i64 (min2 (x87.length : Int) (x93.length : Int))),(17,.int .i64 x184),(1000000,undef)] ∧ St (Rs.fld f0_).fp w0 w [.fld f0_,.blk b1 #[.int .i64 a1.1,.int .i64 a1.2.1,.int .i64 a1.2.2] 24,.own (.int .u8) 5 v8 l48,.own (.int .u8) 5 v89 x87,.own (.int .u8) 5 v92 x90,.own (.int .u8) 5 v95 x93,.own (.int .u8) 5 v182 l183]) k50 ?_ ?_
     · exact ⟨_,_,_,_,Nat.le_refl _,E,upds_eq ⟨z,z,z,z,z,z,z,z,z,trivial⟩,H⟩
     rintro kk t w ⟨l183,x184,v182,t199,hk198,E,rfl,H⟩
     obtain ⟨k197,rfl⟩ | rfl : (∃ k',kk = k' + 1) ∨ kk = 0:=by cases kk; exact .inr rfl; exact .inl ⟨_,rfl⟩
     rotate_left
     · cases E
     rw [chien_Values.l1] at E
     refine rg (v_ z (r_lss z z) (nl (wc_seq ?_)))
     refine wc_cond z (fun c201=>?_) (fun c201=>?_)
     · have E:=iT c201 E
       refine wc_skip (n_thn (wc_seq (wc_block (rg (v_ z (mv (.int .i64 x184) z) (v_ z (sg (.int .i64 x184) z) (nl (wc_seq (wc_drawnS (ds:=[]) e_mo H z z ?_)))))))))
       have H:=H.drew
       refine wt 0 (tf 1 15) z z z (by kernel_rfl) H (fun w H=>(mv (.func (.func 186) #[pt f0_.p] #[]) z)) (wt 1 (tf 2 15) z z z (by kernel_rfl) H (fun w H=>(mv v89 z)) (wt 2 (tf 3 15) z z z (by kernel_rfl) H (fun w H=>(mv (.int .i64 x184) z)) ?_))
       obtain ⟨⟨g202,g203⟩,E⟩:=grd_some E
       refine wt 3 (tf 4 15) z z z (by kernel_rfl) H (fun w H=>(r_idx e_sl_22 (own_rd (H.get 3 z)) z z g202 g203)) (wt 4 (tf 5 15) z z z (by kernel_rfl) H (fun w H=>(r_ldI e_sc_5 (own_rd (H.get 3 z)) g202 g203 z)) (wt 5 (tf 6 15) z z z (by kernel_rfl) H (fun w H=>(mv v95 z)) (wt 6 (tf 7 15) z z z (by kernel_rfl) H (fun w H=>(mv (.int .i64 x184) z)) ?_)))
       obtain ⟨⟨g204,g205⟩,E⟩:=grd_some E
       refine wt 7 (tf 8 15) z z z (by kernel_rfl) H (fun w H=>(r_idx e_sl_22 (own_rd (H.get 5 z)) z z g204 g205)) (wt 8 (tf 9 15) z z z (by kernel_rfl) H (fun w H=>(r_ldI e_sc_5 (own_rd (H.get 5 z)) g204 g205 z)) ?_)
       obtain ⟨x206,E207,E⟩:=bind_some E
       refine wa_one (i:=9) (l':=(tf 10 15)) z z z (by kernel_rfl) (y_callvF z e_en_186 z ((field_Field_Div.calls (H.get 0 z) E207).mono ?_))
       rintro _ w ⟨rfl,K⟩
       have H:=H.appX 0 z K
       refine ⟨_,z,⟨fun _=>H.sel [0,1,2,3,4,5,6] z z,(wt 10 (tf 11 15) z z z (by kernel_rfl) (H.sel [0,1,2,3,4,5,6] z z) (fun w H=>(r_move)) (wt 11 (tf 12 15) z z z (by kernel_rfl) (H.sel [0,1,2,3,4,5,6] z z) (fun w H=>(r_extract z z)) (wt 12 (tf 13 15) z z z (by kernel_rfl) (H.sel [0,1,2,3,4,5,6] z z) (fun w H=>(r_extract z z)) (wt 13 (tf 14 15) z z z (by kernel_rfl) (H.sel [0,1,2,3,4,5,6] z z) (fun w H=>(sg (.int .u8 x206.1) z)) (wt 14 (tf 15 15) z z z (by kernel_rfl) (H.sel [0,1,2,3,4,5,6] z z) (fun w H=>(sg (.bool x206.2) z)) (wa_done (by kernel_rfl) (n_thn (wc_seq (rg (v_ z (mv (.bool x206.2) z) (v_ z (r_not z) (nl ?_))))))))))))⟩⟩
       refine wc_cond z (fun c208=>?_) (fun c208=>?_)
       · have E:=iT c208 E
         refine rg (v_ z (sg (.slice none 0 0) z) (v_ z (sg (.bool false) z) (nl (wc_ret ?_))))
         have H:=H.nilOwn (.int .u8) 5
         exact (r_thn (r_bk (r_thn (r_thn (r_bk (r_thn ⟨.inl z,.tuple #[.slice none 0 0,.bool false],tk0 z ⟨resM z (rv_t (rv_t rv_nil)) z,k197,_,_,_,by omega,E,z,H.sel [0,1,2,3,4,5,7] z z⟩⟩))))))
       · have E:=iF c208 E
         refine wc_skip (n_thn (wc_region (v_ z (mv v182 z) (v_ z (mv (.int .u8 x206.1) z) (e_ z (y_bsL (e:=(.int .u8)) (l:=[x206.1]) e_sl_22 H z (by decide) ⟨z,z,trivial⟩ (by decide) (fun v209 w H=>?_)))))))
         obtain ⟨g211,E⟩:=grd_some E
         refine e_ z (y_app e_sl_22 H 6 z (own_rd (H.get 7 z)) z z (by omega) (by unfold maxLen; omega) (fun v210 w H=>(v_ z (sg v210 z) (wl_nil (n_bk (n_thn (wc_region (v_ z (r_add z z) (v_ z (mv (.int .i64 (i64.wrap (x184 + 1))) z) (wl_nil ?_))))))))))
         exact ⟨k197,Nat.lt_succ_self _,_,_,_,_,Nat.le_of_succ_le hk198,E,upds_eq ⟨z,z,z,z,z,z,z,z,z,trivial⟩,H.sel [0,1,2,3,4,5,6] z z⟩
     · have E:=iF c201 E
       refine wc_exit (x_thn (x_thn (x_bk (n_thn (rg (v_ z (mv v182 z) (v_ z (sg v182 z) (v_ z (sg (.bool true) z) (nl (wc_ret ?_))))))))))
       exact ⟨.inl z,.tuple #[v182,.bool true],tk0 z ⟨resM z (rv_t (rv_t rv_nil)) z,k197,_,_,_,by omega,E,z,H⟩⟩
   rintro _ w ⟨k156,l154,x155,v153,hk157,E,hv_,H⟩
   have hv_:=hv_.symm
   subst hv_
   unfold chien_Values.j1 at E
   refine v_ z (r_move) (v_ z (r_extract z z) (v_ z (r_extract z z) (v_ z (sg v153 z) (v_ z (sg (.bool x155) z) (nl (wc_seq (rg (v_ z (mv (.bool x155) z) (v_ z (r_not z) (nl ?_))))))))))
   refine wc_cond z (fun c213=>?_) (fun c213=>?_)
   · have E:=iT c213 E
     refine rg (v_ z (sg (.slice none 0 0) z) (v_ z (sg (.bool false) z) (nl (wc_ret ?_))))
     have H:=H.nilOwn (.int .u8) 5
     cases E
     exact (r_thn ⟨.inl z,_,tk0 z ⟨resN z (rv_t (rv_t rv_nil)),_,z,H.sub2 0 7 z z z⟩⟩)
   · have E:=iF c213 E
     refine wc_skip (n_thn (wc_seq (rg (v_ z (mv v8 z) (v_ z (r_lenR e_ul_22 (own_rd (H.get 2 z)) z) (v_ z (mv (.int .i64 0) z) (nl (wc_block ?_))))))))
     refine wc_loop (fun kk t w=>∃ (l226 : List (Int)) (x227 : Int) (t242 : Fr),kk ≤ k156 ∧ chien_Values.l2 kk a1 l48 l226 x227 = some r ∧ t = upds t242 [(0,pt f0_.p),(6,pt b1),(10,.slice none 0 0),(11,.bool false),(17,v153),(66,v8),(67,.int .i64 (l48.length : Int)),(68,.int .i64 x227),(1000000,undef)] ∧ St (Rs.fld f0_).fp w0 w [.fld f0_,.blk b1 #[.int .i64 a1.1,.int .i64 a1.2.1,.int .i64 a1.2.2] 24,.own (.int .u8) 5 v8 l48,.own (.int .u8) 5 v89 x87,.own (.int .u8) 5 v92 x90,.own (.int .u8) 5 v95 x93,.own (.int .u8) 5 v153 l226]) k156 ?_ ?_
     · exact ⟨_,_,_,Nat.le_refl _,E,upds_eq ⟨z,z,z,z,z,z,z,z,z,trivial⟩,H⟩
     rintro kk t w ⟨l226,x227,t242,hk241,E,rfl,H⟩
     obtain ⟨k240,rfl⟩ | rfl : (∃ k',kk = k' + 1) ∨ kk = 0:=by cases kk; exact .inr rfl; exact .inl ⟨_,rfl⟩
     rotate_left
     · cases E
     rw [chien_Values.l2] at E
     refine rg (v_ z (r_lss z z) (nl (wc_seq ?_)))
     refine wc_cond z (fun c244=>?_) (fun c244=>?_)
     · have E:=iT c244 E
       refine wc_skip (n_thn (wc_seq (wc_block (rg (v_ z (mv (.int .i64 x227) z) ?_)))))
       obtain ⟨⟨g245,g246⟩,E⟩:=grd_some E
       refine v_ z (r_idx e_sl_22 (own_rd (H.get 2 z)) z z g245 g246) (v_ z (r_ldI e_sc_5 (own_rd (H.get 2 z)) g245 g246 z) (v_ z (sg (.int .i64 x227) z) (v_ z (sg (.int .u8 (at_ 0 l48 x227)) z) (nl (wc_drawnS (ds:=[15]) e_mo H z z ?_)))))
       have H:=H.drew
       refine wt 0 (tf 1 16) z z z (by kernel_rfl) H (fun w H=>(mv v153 z)) (wt 1 (tf 2 16) z z z (by kernel_rfl) H (fun w H=>(mv (.int .i64 x227) z)) (wt 2 (tf 3 16) z z z (by kernel_rfl) H (fun w H=>(mv (pt f0_.p) z)) (wt 3 (tf 4 16) z z z (by kernel_rfl) H (fun w H=>(mv v153 z)) (wt 4 (tf 5 16) z z z (by kernel_rfl) H (fun w H=>(mv (.int .i64 x227) z)) ?_))))
       obtain ⟨⟨g247,g248⟩,E⟩:=grd_some E
       refine wt 5 (tf 6 16) z z z (by kernel_rfl) H (fun w H=>(r_idx e_sl_22 (own_rd (H.get 6 z)) z z g247 g248)) (wt 6 (tf 7 16) z z z (by kernel_rfl) H (fun w H=>(r_ldI e_sc_5 (own_rd (H.get 6 z)) g247 g248 z)) (wt 7 (tf 8 16) z z z (by kernel_rfl) H (fun w H=>(mv (pt f0_.p) z)) (wt 8 (tf 9 16) z z z (by kernel_rfl) H (fun w H=>(mv (.int .u8 (at_ 0 l48 x227)) z)) (wt 9 (tf 10 16) z z z (by kernel_rfl) H (fun w H=>(r_faddr e_fa_24_2 z)) (wt 10 (tf 11 16) z z z (by kernel_rfl) H (fun w H=>(r_load e_sc_3 z (blk_cell (H.get 1 z) z))) (wt 11 (tf 12 16) z z z (by kernel_rfl) H (fun w H=>(r_sub z z)) ?_))))))
       obtain ⟨x249,E250,E⟩:=bind_some E
       refine wa_one (i:=12) (l':=(tf 13 16)) z z z (by kernel_rfl) (y_callL e_en_197 z ((field_Field_Pow.calls (H.get 0 z) E250).mono ?_))
       rintro _ w ⟨rfl,K⟩
       have H:=H.appX 0 z K
       refine ⟨_,z,⟨fun _=>H.sel [0,1,2,3,4,5,6] z z,?_⟩⟩
       obtain ⟨x251,E252,E⟩:=bind_some E
       refine wa_one (i:=13) (l':=(tf 14 16)) z z z (by kernel_rfl) (y_callL e_en_195 z ((field_Field_Mul.calls (H.get 0 z) E252).mono ?_))
       rintro _ w ⟨rfl,K⟩
       have H:=H.appX 0 z K
       refine ⟨_,z,⟨fun _=>H.sel [0,1,2,3,4,5,6] z z,?_⟩⟩
       obtain ⟨⟨g253,g254⟩,E⟩:=grd_some E
       refine wt 14 (tf 15 16) z z z (by kernel_rfl) (H.sel [0,1,2,3,4,5,6] z z) (fun w H=>(r_idx e_sl_22 (own_rd (H.get 6 z)) z z g253 g254)) (wa_one (i:=15) (l':=(tf 16 16)) z z z (by kernel_rfl) (y_storeI e_sz_5 H 6 z g253 g254 z z (fun w H=>⟨fun h=>(h (by decide)).elim,(wa_done (by kernel_rfl) (n_bk (n_thn (wc_region (v_ z (r_add z z) (v_ z (mv (.int .i64 (i64.wrap (x227 + 1))) z) (wl_nil ?_)))))))⟩)))
       exact ⟨k240,Nat.lt_succ_self _,_,_,_,Nat.le_of_succ_le hk241,E,upds_eq ⟨z,z,z,z,z,z,z,z,z,trivial⟩,H⟩
     · have E:=iF c244 E
       refine wc_exit (x_thn (x_thn (x_bk (n_thn (rg (v_ z (mv v153 z) (v_ z (sg v153 z) (v_ z (sg (.bool true) z) (nl (wc_ret ?_))))))))))
       cases E
       exact ⟨.inl z,_,tk0 z ⟨resN z (rv_t (rv_t rv_nil)),_,z,H.sub2 0 6 z z z⟩⟩
def chien_Mend.j0 (l0r : List Int → List Int → List (Int) → Int → Option (List Int)) (k : Nat) (a1 : List Int) (a2 : List Int) (l18 : List (Int)) (x19 : Int) (x43 : Bool) : Option (List Int):=bif x43 then (grd (decide ((0 : Int) ≤ at_ 0 a1 x19 ∧ at_ 0 a1 x19 < (l18.length : Int))) (grd (decide ((0 : Int) ≤ x19 ∧ x19 < (a2.length : Int))) (grd (decide ((0 : Int) ≤ at_ 0 a1 x19 ∧ at_ 0 a1 x19 < (l18.length : Int))) (l0r a1 a2 (l18.set (at_ 0 a1 x19).toNat (bits .xor .u8 (at_ 0 l18 (at_ 0 a1 x19)) (at_ 0 a2 x19))) (i64.wrap (x19 + 1)))))) else (l0r a1 a2 l18 (i64.wrap (x19 + 1)))
def chien_Mend.l0 : Nat → List Int → List Int → List (Int) → Int → Option (List Int)
 | 0,_,_,_,_=>none
 | k + 1,a1,a2,l18,x19=>bif decide (x19 < min2 (a1.length : Int) (a2.length : Int)) then (grd (decide ((0 : Int) ≤ x19 ∧ x19 < (a1.length : Int))) (bif decide (0 ≤ at_ 0 a1 x19) then (chien_Mend.j0 (chien_Mend.l0 k) k a1 a2 l18 x19 (decide (at_ 0 a1 x19 < (l18.length : Int)))) else (chien_Mend.j0 (chien_Mend.l0 k) k a1 a2 l18 x19 false))) else (some l18)
def chien_Mend.f (k : Nat) (a0 : List Int) (a1 : List Int) (a2 : List Int) : Option (List Int):=(slices_Clone.f a0).bind fun x1=>chien_Mend.l0 k a1 a2 x1 0
theorem chien_Mend.calls {w0 : World} {k : Nat} {a0 : List Int} {a1 : List Int} {a2 : List Int} {v0_ : Value} {v1_ : Value} {v2_ : Value} {r : List Int} (h0 : Rd (.of (.int .u8)) w0 (Ol no w0) v0_ a0) (h1 : Rd (.of (.int .i64)) w0 (Ol no w0) v1_ a1) (h2 : Rd (.of (.int .u8)) w0 (Ol no w0) v2_ a2) (E : chien_Mend.f k a0 a1 a2 = some r) :
   Calls Tryz.prog 235 #[v0_,v1_,v2_] w0 fun e w'=>∃ (u0 : Value),e = .returned (u0) ∧ St no w0 w' [.own (.int .u8) 5 u0 r]:=by
 have H:=St.nil no w0
 unfold chien_Mend.f at E
 refine calls_of_wc (N:=44) (args:=[v0_,v1_,v2_]) Tryz.func235 z z (by simp) ?_
 refine rg (v_ z (sg (.slice none 0 0) z) (nl (rg (v_ z (mv v0_ z) ?_))))
 obtain ⟨x1,E2,E⟩:=bind_some E
 refine e_ z (y_callL e_en_84 z ((slices_Clone.calls (H.arg (H.rd h0)) E2).mono ?_))
 rintro _ w ⟨v3,rfl,K⟩
 have H:=H.app K
 refine ⟨_,z,(v_ z (sg v3 z) (nl (wc_seq (rg (v_ z (mv v1_ z) (v_ z (r_lenR e_ul_45 (H.rd h1) z) (v_ z (mv v2_ z) (v_ z (r_lenR e_ul_22 (H.rd h2) z) (v_ z (r_min z z) (v_ z (mv (.int .i64 0) z) (nl (wc_block ?_))))))))))))⟩
 refine wc_loop (fun kk t w=>∃ (l18 : List (Int)) (x19 : Int) (t36 : Fr),kk ≤ k ∧ chien_Mend.l0 kk a1 a2 l18 x19 = some r ∧ t = upds t36 [(1,v1_),(2,v2_),(6,.slice none 0 0),(7,v3),(16,.int .i64 (min2 (a1.length : Int) (a2.length : Int))),(17,.int .i64 x19),(1000000,undef)] ∧ St no w0 w [.own (.int .u8) 5 v3 l18]) k ?_ ?_
 · exact ⟨_,_,_,Nat.le_refl _,E,upds_eq ⟨z,z,z,z,z,z,z,trivial⟩,H⟩
 rintro kk t w ⟨l18,x19,t36,hk35,E,rfl,H⟩
 obtain ⟨k34,rfl⟩ | rfl : (∃ k',kk = k' + 1) ∨ kk = 0:=by cases kk; exact .inr rfl; exact .inl ⟨_,rfl⟩
 rotate_left
 · cases E
 rw [chien_Mend.l0] at E
 refine rg (v_ z (r_lss z z) (nl (wc_seq ?_)))
 refine wc_cond z (fun c38=>?_) (fun c38=>?_)
 · have E:=iT c38 E
   refine wc_skip (n_thn (wc_seq (wc_block (rg (v_ z (mv (.int .i64 x19) z) (v_ z (sg (.int .i64 x19) z) (nl (rg (v_ z (mv v1_ z) (v_ z (mv (.int .i64 x19) z) ?_))))))))))
   obtain ⟨⟨g39,g40⟩,E⟩:=grd_some E
   refine v_ z (r_idx e_sl_45 (H.rd h1) z z g39 g40) (v_ z (r_ldI e_sc_3 (H.rd h1) g39 g40 z) (v_ z (sg (.int .i64 (at_ 0 a1 x19)) z) (nl ?_)))
   refine wc_seqJ (fun t w=>∃ (k45 : Nat) (x43 : Bool) (t44 : Fr),k45 ≤ k34 ∧ chien_Mend.j0 (chien_Mend.l0 k45) k45 a1 a2 l18 x19 x43 = some r ∧ t = upds t44 [(1,v1_),(2,v2_),(6,.slice none 0 0),(7,v3),(8,.int .i64 x19),(9,.int .i64 (at_ 0 a1 x19)),(16,.int .i64 (min2 (a1.length : Int) (a2.length : Int))),(17,.int .i64 x19),(31,.bool x43),(1000000,undef)] ∧ St no w0 w [.own (.int .u8) 5 v3 l18]) ?_ ?_
   · refine wc_region (v_ z (mv (.int .i64 (at_ 0 a1 x19)) z) (v_ z (r_geq z z) (v_ z (mv (.bool (decide (0 ≤ at_ 0 a1 x19))) z) ?_)))
     rcases Bool.eq_false_or_eq_true (decide (0 ≤ at_ 0 a1 x19)) with c47 | c47
     · have E:=iT c47 E
       refine on_ c47 z z (mv (.int .i64 (at_ 0 a1 x19)) z) (on_ c47 z z (mv v3 z) (on_ c47 z z (r_lenR e_ul_22 (own_rd (H.get 0 z)) z) (on_ c47 z z (r_lss z z) (v_ z (pT (.bool (decide (at_ 0 a1 x19 < (l18.length : Int)))) z z c47) (wl_nil ?_)))))
       exact ⟨k34,_,_,Nat.le_refl _,E,upds_eq ⟨z,z,z,z,z,z,z,z,z,z,trivial⟩,H⟩
     · have E:=iF c47 E
       refine off_ c47 z z z (off_ c47 z z z (off_ c47 z z z (off_ c47 z z z (v_ z (pF (.bool false) z z c47) (wl_nil ?_)))))
       exact ⟨k34,_,_,Nat.le_refl _,E,upds_eq ⟨z,z,z,z,z,z,z,z,z,z,trivial⟩,H⟩
   rintro t w ⟨k45,x43,t44,hk46,E,rfl,H⟩
   unfold chien_Mend.j0 at E
   refine wc_cond z (fun c48=>?_) (fun c48=>?_)
   · have E:=iT c48 E
     refine wc_drawnS (ds:=[10]) e_mo H z z ?_
     have H:=H.drew
     refine wt 0 (tf 1 11) z z z (by kernel_rfl) H (fun w H=>(mv v3 z)) (wt 1 (tf 2 11) z z z (by kernel_rfl) H (fun w H=>(mv (.int .i64 (at_ 0 a1 x19)) z)) ?_)
     obtain ⟨⟨g49,g50⟩,E⟩:=grd_some E
     refine wt 2 (tf 3 11) z z z (by kernel_rfl) H (fun w H=>(r_idx e_sl_22 (own_rd (H.get 0 z)) z z g49 g50)) (wt 3 (tf 4 11) z z z (by kernel_rfl) H (fun w H=>(r_ldI e_sc_5 (own_rd (H.get 0 z)) g49 g50 z)) (wt 4 (tf 5 11) z z z (by kernel_rfl) H (fun w H=>(mv v2_ z)) (wt 5 (tf 6 11) z z z (by kernel_rfl) H (fun w H=>(mv (.int .i64 x19) z)) ?_)))
     obtain ⟨⟨g51,g52⟩,E⟩:=grd_some E
     refine wt 6 (tf 7 11) z z z (by kernel_rfl) H (fun w H=>(r_idx e_sl_22 (H.rd h2) z z g51 g52)) (wt 7 (tf 8 11) z z z (by kernel_rfl) H (fun w H=>(r_ldI e_sc_5 (H.rd h2) g51 g52 z)) (wt 8 (tf 9 11) z z z (by kernel_rfl) H (fun w H=>(r_xor z z)) ?_))
     obtain ⟨⟨g53,g54⟩,E⟩:=grd_some E
     refine wt 9 (tf 10 11) z z z (by kernel_rfl) H (fun w H=>(r_idx e_sl_22 (own_rd (H.get 0 z)) z z g53 g54)) (wa_one (i:=10) (l':=(tf 11 11)) z z z (by kernel_rfl) (y_storeI e_sz_5 H 0 z g53 g54 z z (fun w H=>⟨fun h=>(h (by decide)).elim,(wa_done (by kernel_rfl) (n_bk (n_thn (wc_region (v_ z (r_add z z) (v_ z (mv (.int .i64 (i64.wrap (x19 + 1))) z) (wl_nil ?_)))))))⟩)))
     exact ⟨k45,by omega,_,_,_,by omega,E,upds_eq ⟨z,z,z,z,z,z,z,trivial⟩,H⟩
   · have E:=iF c48 E
     refine wc_skip (n_bk (n_thn (wc_region (v_ z (r_add z z) (v_ z (mv (.int .i64 (i64.wrap (x19 + 1))) z) (wl_nil ?_))))))
     exact ⟨k45,by omega,_,_,_,by omega,E,upds_eq ⟨z,z,z,z,z,z,z,trivial⟩,H⟩
 · have E:=iF c38 E
   refine wc_exit (x_thn (x_thn (x_bk (n_thn (rg (v_ z (mv v3 z) (v_ z (sg v3 z) (nl (wc_ret ?_)))))))))
   cases E
   exact ⟨.inl z,_,tk0 z ⟨resN z (rv_t rv_nil),_,z,H.sub1 0 z⟩⟩
def three_job_mended.f (k : Nat) (a0 : (Int × Int × Int) × List Int × List Int) (a1 : List Int) (a2 : List Int) : Option (List Int × Bool):=(chien_Places.f k (a0.1.1,a0.1.2.1,a0.1.2.2) a2).bind fun x2=>(chien_Values.f k (a0.1.1,a0.1.2.1,a0.1.2.2) a1 a2 x2).bind fun x5=>bif !x5.2 then (some (([] : List (Int)),false)) else ((chien_Mend.f k a0.2.1 x2 x5.1).bind fun x10=>(check_Accept.f k (a0.1.1,a0.1.2.1,a0.1.2.2) a0.2.1 a0.2.2 x10).bind fun x18=>bif !x18 then (some (([] : List (Int)),false)) else (some (x10,true)))
theorem three_job_mended.calls {w0 : World} {k : Nat} {f0_ : FD} {a0 : (Int × Int × Int) × List Int × List Int} {a1 : List Int} {a2 : List Int} {v0_4_ : Value} {v0_5_ : Value} {v1_ : Value} {v2_ : Value} {r : List Int × Bool} (hf : (Rs.fld f0_).inv w0) (h0_4 : Rd (.of (.int .u8)) w0 (Ol (Rs.fld f0_).fp w0) v0_4_ a0.2.1) (h0_5 : Rd (.of (.int .i64)) w0 (Ol (Rs.fld f0_).fp w0) v0_5_ a0.2.2) (h1 : Rd (.of (.int .u8)) w0 (Ol (Rs.fld f0_).fp w0) v1_ a1) (h2 : Rd (.of (.int .u8)) w0 (Ol (Rs.fld f0_).fp w0) v2_ a2) (E : three_job_mended.f k a0 a1 a2 = some r) :
   Calls Tryz.prog 181 #[.agg #[pt f0_.p,.int .i64 a0.1.1,.int .i64 a0.1.2.1,.int .i64 a0.1.2.2,v0_4_,v0_5_],v1_,v2_] w0 fun e w'=>∃ (u0 : Value),e = .returned (.tuple #[u0,.bool r.2]) ∧ St (Rs.fld f0_).fp w0 w' [.fld f0_,.own (.int .u8) 5 u0 r.1]:=by
 have H:=St.start hf
 unfold three_job_mended.f at E
 refine calls_of_wc (N:=39) (args:=[.agg #[pt f0_.p,.int .i64 a0.1.1,.int .i64 a0.1.2.1,.int .i64 a0.1.2.2,v0_4_,v0_5_],v1_,v2_]) Tryz.func181 z z (by simp) ?_
 refine rg (e_ z (y_boxS (cs:=#[pt f0_.p,.int .i64 a0.1.1,.int .i64 a0.1.2.1,.int .i64 a0.1.2.2,v0_4_,v0_5_]) H z (fun b1 w H=>(v_ z (sg (.slice none 0 0) z) (v_ z (sg (.bool false) z) (nl (rg (v_ z (r_faddr e_fa_218_0 z) (v_ z (r_load e_sc_79 z (blk_cell (H.get 1 z) z)) (v_ z (r_faddr e_fa_218_1 z) (v_ z (r_loadB (l:=[.int .i64 a0.1.1,.int .i64 a0.1.2.1,.int .i64 a0.1.2.2]) e_ag_24 (H.get 1 z) z z z) (v_ z (mv v2_ z) ?_))))))))))))
 obtain ⟨x2,E3,E⟩:=bind_some E
 refine e_ z (y_callL e_en_233 z ((chien_Places.calls (H.get 0 z) (H.argX 0 z (H.rd h2)) E3).mono ?_))
 rintro _ w ⟨v4,rfl,K⟩
 have H:=H.appX 0 z K
 refine ⟨_,z,(v_ z (sg v4 z) (nl (rg (v_ z (r_faddr e_fa_218_0 z) (v_ z (r_load e_sc_79 z (blk_cell (H.get 1 z) z)) (v_ z (r_faddr e_fa_218_1 z) (v_ z (r_loadB (l:=[.int .i64 a0.1.1,.int .i64 a0.1.2.1,.int .i64 a0.1.2.2]) e_ag_24 (H.get 1 z) z z z) (v_ z (mv v1_ z) (v_ z (mv v2_ z) (v_ z (mv v4 z) ?_))))))))))⟩
 obtain ⟨x5,E6,E⟩:=bind_some E
 refine e_ z (y_callL e_en_234 z ((chien_Values.calls (H.get 0 z) (H.argX 0 z (H.rd h1)) (H.argX 0 z (H.rd h2)) (H.ownX 2 0 z z z (own_rd (H.get 2 z))) E6).mono ?_))
 rintro _ w ⟨v7,rfl,K⟩
 have H:=H.appX 0 z K
 refine ⟨_,z,(v_ z (r_move) (v_ z (r_extract z z) (v_ z (r_extract z z) (v_ z (sg v7 z) (v_ z (sg (.bool x5.2) z) (nl (wc_seq (rg (v_ z (mv (.bool x5.2) z) (v_ z (r_not z) (nl ?_)))))))))))⟩
 refine wc_cond z (fun c9=>?_) (fun c9=>?_)
 · have E:=iT c9 E
   refine rg (v_ z (sg (.slice none 0 0) z) (v_ z (sg (.bool false) z) (nl (wc_ret ?_))))
   have H:=H.nilOwn (.int .u8) 5
   cases E
   exact (r_thn ⟨.inl z,_,tk0 z ⟨resN z (rv_t (rv_t rv_nil)),_,z,H.sub2 0 4 z z z⟩⟩)
 · have E:=iF c9 E
   refine wc_skip (n_thn (wc_seq (wc_drawnS (ds:=[]) e_mo H z z ?_)))
   have H:=H.drew
   refine wt 0 (tf 1 11) z z z (by kernel_rfl) H (fun w H=>(r_loadB (l:=[pt f0_.p,.int .i64 a0.1.1,.int .i64 a0.1.2.1,.int .i64 a0.1.2.2,v0_4_,v0_5_]) e_ag_218 (H.get 1 z) z z z)) (wt 1 (tf 2 11) z z z (by kernel_rfl) H (fun w H=>(r_faddr e_fa_218_2 z)) (wt 2 (tf 3 11) z z z (by kernel_rfl) H (fun w H=>(r_load e_sc_22 z (blk_cell (H.get 1 z) z))) (wt 3 (tf 4 11) z z z (by kernel_rfl) H (fun w H=>(mv v4 z)) (wt 4 (tf 5 11) z z z (by kernel_rfl) H (fun w H=>(mv v7 z)) ?_))))
   obtain ⟨x10,E11,E⟩:=bind_some E
   refine wa_one (i:=5) (l':=(tf 6 11)) z z z (by kernel_rfl) (y_callL e_en_235 z ((chien_Mend.calls (H.arg (H.rd h0_4)) (H.own 2 z (own_rd (H.get 2 z))) (H.own 3 z (own_rd (H.get 3 z))) E11).mono ?_))
   rintro _ w ⟨v12,rfl,K⟩
   have H:=H.app K
   refine ⟨_,z,⟨fun _=>H.sel [0,1,2,3] z z,(wa_one (i:=6) (l':=(tf 7 11)) z z z (by kernel_rfl) (y_in 18 [.agg #[pt f0_.p,.int .i64 a0.1.1,.int .i64 a0.1.2.1,.int .i64 a0.1.2.2,v0_4_,v0_5_],v12] e_en_188 Tryz.func188 z z z z (rg (e_ z (y_boxS (cs:=#[pt f0_.p,.int .i64 a0.1.1,.int .i64 a0.1.2.1,.int .i64 a0.1.2.2,v0_4_,v0_5_]) H z (fun b17 w H=>?_))))))⟩⟩
   have H : St (Rs.fld f0_).fp w0 _ [.fld f0_,.blk b1 #[pt f0_.p,.int .i64 a0.1.1,.int .i64 a0.1.2.1,.int .i64 a0.1.2.2,v0_4_,v0_5_] 218,.own (.int .i64) 3 v4 x2,.own (.int .u8) 5 v7 x5.1,.own (.int .u8) 5 v12 x10,.blk b17 #[pt f0_.p,.int .i64 a0.1.1,.int .i64 a0.1.2.1,.int .i64 a0.1.2.2,v0_4_,v0_5_] 218]:=H
   refine v_ z (sg (.slice none 0 0) z) (v_ z (sg (.bool false) z) (nl (wc_seq (rg (v_ z (r_faddr e_fa_218_0 z) (v_ z (r_load e_sc_79 z (blk_cell (H.get 5 z) z)) (v_ z (r_faddr e_fa_218_1 z) (v_ z (r_loadB (l:=[.int .i64 a0.1.1,.int .i64 a0.1.2.1,.int .i64 a0.1.2.2]) e_ag_24 (H.get 5 z) z z z) (v_ z (r_faddr e_fa_218_2 z) (v_ z (r_load e_sc_22 z (blk_cell (H.get 5 z) z)) (v_ z (r_faddr e_fa_218_3 z) (v_ z (r_load e_sc_45 z (blk_cell (H.get 5 z) z)) (v_ z (mv v12 z) ?_)))))))))))))
   obtain ⟨x18,E19,E⟩:=bind_some E
   refine e_ z (y_callL e_en_247 z ((check_Accept.calls (H.get 0 z) (H.argX 0 z (H.rd h0_4)) (H.argX 0 z (H.rd h0_5)) (H.ownX 4 0 z z z (own_rd (H.get 4 z))) E19).mono ?_))
   rintro _ w ⟨rfl,K⟩
   have H:=H.appX 0 z K
   refine ⟨_,z,(v_ z (r_not z) (nl ?_))⟩
   refine wc_cond z (fun c20=>?_) (fun c20=>?_)
   · have E:=iT c20 E
     refine rg (v_ z (sg (.slice none 0 0) z) (v_ z (sg (.bool false) z) (nl (wc_ret ((r_thn ⟨.inl z,.tuple #[.slice none 0 0,.bool false],tk0 z ⟨resM z (rv_t (rv_t rv_nil)) z,(⟨fun _=>H.sel [0,1,2,3] z z,(wt 7 (tf 8 11) z z z (by kernel_rfl) (H.sel [0,1,2,3] z z) (fun w H=>(r_extract z z)) (wt 8 (tf 9 11) z z z (by kernel_rfl) (H.sel [0,1,2,3] z z) (fun w H=>(r_extract z z)) (wt 9 (tf 10 11) z z z (by kernel_rfl) (H.sel [0,1,2,3] z z) (fun w H=>(sg (.slice none 0 0) z)) (wt 10 (tf 11 11) z z z (by kernel_rfl) (H.sel [0,1,2,3] z z) (fun w H=>(sg (.bool false) z)) (wa_done (by kernel_rfl) (n_thn (wc_ret ?_)))))))⟩)⟩⟩))))))
     have H:=H.nilOwn (.int .u8) 5
     cases E
     exact ⟨.inl z,_,tk0 z ⟨resN z (rv_t (rv_t rv_nil)),_,z,H.sub2 0 6 z z z⟩⟩
   · have E:=iF c20 E
     refine wc_skip (n_thn (rg (v_ z (mv v12 z) (v_ z (sg v12 z) (v_ z (sg (.bool true) z) (nl (wc_ret (⟨.inl z,.tuple #[v12,.bool true],tk0 z ⟨resM z (rv_t (rv_t rv_nil)) z,(⟨fun _=>H.sel [0,1,2,3] z z,(wt 7 (tf 8 11) z z z (by kernel_rfl) (H.sel [0,1,2,3] z z) (fun w H=>(r_extract z z)) (wt 8 (tf 9 11) z z z (by kernel_rfl) (H.sel [0,1,2,3] z z) (fun w H=>(r_extract z z)) (wa_oneV (i:=9) (l':=(tf 10 11)) z z z (by kernel_rfl) ((H.sel [0,1,2,3] z z)) (sg v12 z) (wt 10 (tf 11 11) z z z (by kernel_rfl) (H.sel [0,1,2,3] z z) (fun w H=>(sg (.bool true) z)) (wa_done (by kernel_rfl) (n_thn (wc_ret ?_)))))))⟩)⟩⟩))))))))
     cases E
     exact ⟨.inl z,_,tk0 z ⟨resN z (rv_t (rv_t rv_nil)),_,z,H.sub2 0 4 z z z⟩⟩
def poly_Cut.f (k : Nat) (a0 : List Int) (a1 : Int) : Option (List Int):=grd (decide ((0 : Int) ≤ max2 0 (min2 a1 (a0.length : Int)) ∧ max2 0 (min2 a1 (a0.length : Int)) ≤ (a0.length : Int))) ((poly_Norm.f k ((a0.take ((max2 0 (min2 a1 (a0.length : Int))).toNat)).drop 0)).bind fun x6=>some x6)
theorem poly_Cut.calls {w0 : World} {k : Nat} {a0 : List Int} {a1 : Int} {v0_ : Value} {r : List Int} (h0 : Rd (.of (.int .u8)) w0 (Ol no w0) v0_ a0) (E : poly_Cut.f k a0 a1 = some r) :
   Calls Tryz.prog 236 #[v0_,.int .i64 a1] w0 fun e w'=>∃ (u0 : Value),e = .returned (u0) ∧ St no w0 w' [.own (.int .u8) 5 u0 r]:=by
 have H:=St.nil no w0
 unfold poly_Cut.f at E
 refine calls_of_wc (N:=13) (args:=[v0_,.int .i64 a1]) Tryz.func236 z z (by simp) ?_
 refine rg (v_ z (sg (.slice none 0 0) z) (nl (rg (v_ z (mv v0_ z) (v_ z (mv (.int .i64 a1) z) (v_ z (mv v0_ z) (v_ z (r_lenR e_ul_22 (H.rd h0) z) (v_ z (r_min z z) (v_ z (r_max z z) ?_)))))))))
 obtain ⟨⟨g1,g2⟩,E⟩:=grd_some E
 have p4 : 0 ≤ (max2 0 (min2 a1 (a0.length : Int))).toNat:=by omega
 have p5 : (max2 0 (min2 a1 (a0.length : Int))).toNat ≤ a0.length:=by omega
 refine v_ z (r_slcHR e_sl_22 (H.rd h0) z z g1 g2) ?_
 obtain ⟨x6,E7,E⟩:=bind_some E
 refine e_ z (y_callL e_en_222 z ((poly_Norm.calls (H.arg (Rd.slv (H.rd h0) p4 p5)) E7).mono ?_))
 rintro _ w ⟨v8,rfl,K⟩
 have H:=H.app K
 refine ⟨_,z,(v_ z (sg v8 z) (nl (wc_ret ?_)))⟩
 cases E
 exact ⟨.inl z,_,tk0 z ⟨resN z (rv_t rv_nil),_,z,H.sub1 0 z⟩⟩
def chien_Evaluator.f (k : Nat) (a1 : List Int) (a2 : List Int) : Option (List Int):=(poly_Mul.f k a1 a2).bind fun x1=>(poly_Cut.f k x1 (a1.length : Int)).bind fun x4=>some x4
theorem chien_Evaluator.calls {w0 : World} {k : Nat} {f0_ : FD} {a1 : List Int} {a2 : List Int} {v1_ : Value} {v2_ : Value} {r : List Int} (hf : (Rs.fld f0_).inv w0) (h1 : Rd (.of (.int .u8)) w0 (Ol (Rs.fld f0_).fp w0) v1_ a1) (h2 : Rd (.of (.int .u8)) w0 (Ol (Rs.fld f0_).fp w0) v2_ a2) (E : chien_Evaluator.f k a1 a2 = some r) :
   Calls Tryz.prog 182 #[pt f0_.p,v1_,v2_] w0 fun e w'=>∃ (u0 : Value),e = .returned (u0) ∧ St (Rs.fld f0_).fp w0 w' [.fld f0_,.own (.int .u8) 5 u0 r]:=by
 have H:=St.start hf
 unfold chien_Evaluator.f at E
 refine calls_of_wc (N:=16) (args:=[pt f0_.p,v1_,v2_]) Tryz.func182 z z (by simp) ?_
 refine rg (v_ z (sg (.slice none 0 0) z) (nl (wc_seq (rg (v_ z (mv (pt f0_.p) z) (v_ z (r_peql0 Tryz.underlying79 z z) (nl (wc_condF z (wc_skip (n_thn (rg (v_ z (mv (pt f0_.p) z) (v_ z (mv v1_ z) (v_ z (mv v2_ z) ?_))))))))))))))
 obtain ⟨x1,E2,E⟩:=bind_some E
 refine e_ z (y_callL e_en_180 z ((poly_Mul.calls (H.get 0 z) (H.argX 0 z (H.rd h1)) (H.argX 0 z (H.rd h2)) E2).mono ?_))
 rintro _ w ⟨v3,rfl,K⟩
 have H:=H.appX 0 z K
 refine ⟨_,z,(v_ z (mv v1_ z) (v_ z (r_lenR e_ul_22 (H.rd h1) z) ?_))⟩
 obtain ⟨x4,E5,E⟩:=bind_some E
 refine e_ z (y_callL e_en_236 z ((poly_Cut.calls (H.own 1 z (own_rd (H.get 1 z))) E5).mono ?_))
 rintro _ w ⟨v6,rfl,K⟩
 have H:=H.app K
 refine ⟨_,z,(v_ z (sg v6 z) (nl (wc_ret ?_)))⟩
 cases E
 exact ⟨.inl z,_,tk0 z ⟨resN z (rv_t rv_nil),_,z,H.sub2 0 2 z z z⟩⟩
def three_byRegister_do.f (k : Nat) (a0 : (Int × Int × Int) × List Int × List Int) : Option (List Int × Bool):=(three_job_lacking.f k ((a0.1.1,a0.1.2.1,a0.1.2.2),a0.2.1,a0.2.2)).bind fun x2=>grd (decide ((0 : Int) ≤ (a0.2.2.length : Int) ∧ (a0.2.2.length : Int) ≤ (x2.2.2.length : Int))) ((massey_Massey.f k ((x2.2.2.take x2.2.2.length).drop ((a0.2.2.length : Int).toNat))).bind fun x12=>(poly_Mul.f k x12.1 x2.2.1).bind fun x15=>(chien_Evaluator.f k x2.1 x15).bind fun x18=>(three_job_mended.f k ((a0.1.1,a0.1.2.1,a0.1.2.2),a0.2.1,a0.2.2) x18 x15).bind fun x21=>some (x21.1,x21.2))
theorem three_byRegister_do.calls {w0 : World} {k : Nat} {f0_ : FD} {a0 : (Int × Int × Int) × List Int × List Int} {v0_4_ : Value} {v0_5_ : Value} {r : List Int × Bool} (hf : (Rs.fld f0_).inv w0) (h0_4 : Rd (.of (.int .u8)) w0 (Ol (Rs.fld f0_).fp w0) v0_4_ a0.2.1) (h0_5 : Rd (.of (.int .i64)) w0 (Ol (Rs.fld f0_).fp w0) v0_5_ a0.2.2) (E : three_byRegister_do.f k a0 = some r) :
   Calls Tryz.prog 130 #[.agg #[pt f0_.p,.int .i64 a0.1.1,.int .i64 a0.1.2.1,.int .i64 a0.1.2.2,v0_4_,v0_5_]] w0 fun e w'=>∃ (u0 : Value),e = .returned (.tuple #[u0,.bool r.2]) ∧ St (Rs.fld f0_).fp w0 w' [.fld f0_,.own (.int .u8) 5 u0 r.1]:=by
 have H:=St.start hf
 unfold three_byRegister_do.f at E
 refine calls_of_wc (N:=48) (args:=[.agg #[pt f0_.p,.int .i64 a0.1.1,.int .i64 a0.1.2.1,.int .i64 a0.1.2.2,v0_4_,v0_5_]]) Tryz.func130 z z (by simp) ?_
 refine rg (e_ z (y_boxS (cs:=#[pt f0_.p,.int .i64 a0.1.1,.int .i64 a0.1.2.1,.int .i64 a0.1.2.2,v0_4_,v0_5_]) H z (fun b1 w H=>(v_ z (sg (.slice none 0 0) z) (v_ z (sg (.bool false) z) (nl (rg (v_ z (r_faddr e_fa_221_0 z) (v_ z (r_loadB (l:=[pt f0_.p,.int .i64 a0.1.1,.int .i64 a0.1.2.1,.int .i64 a0.1.2.2,v0_4_,v0_5_]) e_ag_218 (H.get 1 z) z z z) ?_)))))))))
 obtain ⟨x2,E3,E⟩:=bind_some E
 refine e_ z (y_callL e_en_178 z ((three_job_lacking.calls (H.get 0 z) (H.argX 0 z (H.rd h0_4)) (H.argX 0 z (H.rd h0_5)) E3).mono ?_))
 rintro _ w ⟨v4,v5,v6,rfl,K⟩
 have H:=H.appX 0 z K
 refine ⟨_,z,(v_ z (r_move) (v_ z (r_extract z z) (v_ z (r_extract z z) (v_ z (r_extract z z) (v_ z (sg v4 z) (v_ z (sg v5 z) (v_ z (sg v6 z) (nl (wc_seq (wc_drawnS (ds:=[]) e_mo H z z ?_))))))))))⟩
 have H:=H.drew
 refine wt 0 (tf 1 15) z z z (by kernel_rfl) H (fun w H=>(r_faddr e_fa_221_0 z)) (wt 1 (tf 2 15) z z z (by kernel_rfl) H (fun w H=>(r_faddr e_fa_218_0 z)) (wt 2 (tf 3 15) z z z (by kernel_rfl) H (fun w H=>(r_load e_sc_79 z (blk_cell (H.get 1 z) z))) (wt 3 (tf 4 15) z z z (by kernel_rfl) H (fun w H=>(mv v6 z)) (wt 4 (tf 5 15) z z z (by kernel_rfl) H (fun w H=>(r_faddr e_fa_221_0 z)) (wt 5 (tf 6 15) z z z (by kernel_rfl) H (fun w H=>(r_faddr e_fa_218_3 z)) (wt 6 (tf 7 15) z z z (by kernel_rfl) H (fun w H=>(r_load e_sc_45 z (blk_cell (H.get 1 z) z))) (wt 7 (tf 8 15) z z z (by kernel_rfl) H (fun w H=>(r_lenR e_ul_45 (H.rd h0_5) z)) ?_)))))))
 obtain ⟨⟨g7,g8⟩,E⟩:=grd_some E
 have p10 : (a0.2.2.length : Int).toNat ≤ x2.2.2.length:=by omega
 have p11 : x2.2.2.length ≤ x2.2.2.length:=by omega
 refine wt 8 (tf 9 15) z z z (by kernel_rfl) H (fun w H=>(r_slcLR e_sl_22 (own_rd (H.get 4 z)) z z g7 g8)) ?_
 obtain ⟨x12,E13,E⟩:=bind_some E
 refine wa_one (i:=9) (l':=(tf 10 15)) z z z (by kernel_rfl) (y_callL e_en_179 z ((massey_Massey.calls (H.get 0 z) (H.ownX 4 0 z z z (Rd.slv (own_rd (H.get 4 z)) p10 p11)) E13).mono ?_))
 rintro _ w ⟨v14,rfl,K⟩
 have H:=H.appX 0 z K
 refine ⟨_,z,⟨fun _=>H.sel [0,1,2,3,4] z z,(wt 10 (tf 11 15) z z z (by kernel_rfl) (H.sel [0,1,2,3,4] z z) (fun w H=>(r_move)) (wt 11 (tf 12 15) z z z (by kernel_rfl) (H.sel [0,1,2,3,4] z z) (fun w H=>(r_extract z z)) (wt 12 (tf 13 15) z z z (by kernel_rfl) (H.sel [0,1,2,3,4] z z) (fun w H=>(r_extract z z)) (wa_oneV (i:=13) (l':=(tf 14 15)) z z z (by kernel_rfl) ((H.sel [0,1,2,3,4] z z)) (sg v14 z) (wt 14 (tf 15 15) z z z (by kernel_rfl) (H.sel [0,1,2,3,4] z z) (fun w H=>(sg (.int .i64 x12.2) z)) (wa_done (by kernel_rfl) (n_thn (rg (v_ z (r_faddr e_fa_221_0 z) (v_ z (r_faddr e_fa_218_0 z) (v_ z (r_load e_sc_79 z (blk_cell (H.get 1 z) z)) (v_ z (mv v14 z) (v_ z (mv v5 z) ?_)))))))))))))⟩⟩
 obtain ⟨x15,E16,E⟩:=bind_some E
 refine e_ z (y_callL e_en_180 z ((poly_Mul.calls (H.get 0 z) (H.ownX 5 0 z z z (own_rd (H.get 5 z))) (H.ownX 3 0 z z z (own_rd (H.get 3 z))) E16).mono ?_))
 rintro _ w ⟨v17,rfl,K⟩
 have H:=H.appX 0 z K
 refine ⟨_,z,(v_ z (sg v17 z) (nl (wc_seq (wc_drawnS (ds:=[]) e_mo H z z ?_))))⟩
 have H:=H.drew
 refine wt 0 (tf 1 14) z z z (by kernel_rfl) H (fun w H=>(r_faddr e_fa_221_0 z)) (wt 1 (tf 2 14) z z z (by kernel_rfl) H (fun w H=>(r_loadB (l:=[pt f0_.p,.int .i64 a0.1.1,.int .i64 a0.1.2.1,.int .i64 a0.1.2.2,v0_4_,v0_5_]) e_ag_218 (H.get 1 z) z z z)) (wt 2 (tf 3 14) z z z (by kernel_rfl) H (fun w H=>(r_faddr e_fa_221_0 z)) (wt 3 (tf 4 14) z z z (by kernel_rfl) H (fun w H=>(r_faddr e_fa_218_0 z)) (wt 4 (tf 5 14) z z z (by kernel_rfl) H (fun w H=>(r_load e_sc_79 z (blk_cell (H.get 1 z) z))) (wt 5 (tf 6 14) z z z (by kernel_rfl) H (fun w H=>(mv v4 z)) (wt 6 (tf 7 14) z z z (by kernel_rfl) H (fun w H=>(mv v17 z)) (wt 8 #[true,true,true,true,true,true,true,false,true,false,false,false,false,false] z z z (by kernel_rfl) H (fun w H=>(mv v17 z)) ?_)))))))
 obtain ⟨x18,E19,E⟩:=bind_some E
 refine wa_one (i:=7) (l':=(tf 9 14)) z z z (by kernel_rfl) (y_callL e_en_182 z ((chien_Evaluator.calls (H.get 0 z) (H.ownX 2 0 z z z (own_rd (H.get 2 z))) (H.ownX 6 0 z z z (own_rd (H.get 6 z))) E19).mono ?_))
 rintro _ w ⟨v20,rfl,K⟩
 have H:=H.appX 0 z K
 refine ⟨_,z,⟨fun _=>H.sel [0,1,2,3,4,5,6] z z,?_⟩⟩
 have H : St (Rs.fld f0_).fp w0 _ [.fld f0_,.blk b1 #[pt f0_.p,.int .i64 a0.1.1,.int .i64 a0.1.2.1,.int .i64 a0.1.2.2,v0_4_,v0_5_] 221,.own (.int .u8) 5 v4 x2.1,.own (.int .u8) 5 v5 x2.2.1,.own (.int .u8) 5 v6 x2.2.2,.own (.int .u8) 5 v14 x12.1,.own (.int .u8) 5 v17 x15,.own (.int .u8) 5 v20 x18]:=H
 obtain ⟨x21,E22,E⟩:=bind_some E
 refine wa_one (i:=9) (l':=(tf 10 14)) z z z (by kernel_rfl) (y_callL e_en_181 z ((three_job_mended.calls (H.get 0 z) (H.argX 0 z (H.rd h0_4)) (H.argX 0 z (H.rd h0_5)) (H.ownX 7 0 z z z (own_rd (H.get 7 z))) (H.ownX 6 0 z z z (own_rd (H.get 6 z))) E22).mono ?_))
 rintro _ w ⟨v23,rfl,K⟩
 have H:=H.appX 0 z K
 refine ⟨_,z,⟨fun _=>H.sel [0,1,2,3,4,5,6] z z,(wt 10 (tf 11 14) z z z (by kernel_rfl) (H.sel [0,1,2,3,4,5,6] z z) (fun w H=>(r_extract z z)) (wt 11 (tf 12 14) z z z (by kernel_rfl) (H.sel [0,1,2,3,4,5,6] z z) (fun w H=>(r_extract z z)) (wa_oneV (i:=12) (l':=(tf 13 14)) z z z (by kernel_rfl) ((H.sel [0,1,2,3,4,5,6] z z)) (sg v23 z) (wt 13 (tf 14 14) z z z (by kernel_rfl) (H.sel [0,1,2,3,4,5,6] z z) (fun w H=>(sg (.bool x21.2) z)) (wa_done (by kernel_rfl) (n_thn (wc_ret ?_)))))))⟩⟩
 cases E
 exact ⟨.inl z,_,tk0 z ⟨resN z (rv_t (rv_t rv_nil)),_,z,H.sub2 0 8 z z z⟩⟩
def euclid_Key.f (a1 : List Int) (a2 : Int) : Option (List Int × List Int × Bool):=bif decide (a2 < 0) then (some (([] : List (Int)),([] : List (Int)),false)) else (bif decide ((a1.length : Int) < a2) then (some (([] : List (Int)),([] : List (Int)),false)) else (none))
theorem euclid_Key.calls {w0 : World} {f0_ : FD} {a1 : List Int} {a2 : Int} {v1_ : Value} {r : List Int × List Int × Bool} (hf : (Rs.fld f0_).inv w0) (h1 : Rd (.of (.int .u8)) w0 (Ol (Rs.fld f0_).fp w0) v1_ a1) (E : euclid_Key.f a1 a2 = some r) :
   Calls Tryz.prog 183 #[pt f0_.p,v1_,.int .i64 a2] w0 fun e w'=>∃ (u0 : Value) (u1 : Value),e = .returned (.tuple #[u0,u1,.bool r.2.2]) ∧ St (Rs.fld f0_).fp w0 w' [.fld f0_,.own (.int .u8) 5 u0 r.1,.own (.int .u8) 5 u1 r.2.1]:=by
 have H:=St.start hf
 unfold euclid_Key.f at E
 refine calls_of_wc (N:=59) (args:=[pt f0_.p,v1_,.int .i64 a2]) Tryz.func183 z z (by simp) ?_
 refine rg (v_ z (sg (.slice none 0 0) z) (v_ z (sg (.slice none 0 0) z) (v_ z (sg (.bool false) z) (nl (rg (v_ z (mv v1_ z) (v_ z (r_lenR e_ul_22 (H.rd h1) z) (v_ z (sg (.int .i64 (a1.length : Int)) z) (nl (wc_seq (rg (v_ z (mv (pt f0_.p) z) (v_ z (r_peql0 Tryz.underlying79 z z) (v_ z (mv (.bool false) z) (on_ z z z (mv (.int .i64 a2) z) (on_ z z z (r_lss z z) (v_ z (pF (.bool (decide (a2 < 0))) z z z) (v_ z (mv (.bool (decide (a2 < 0))) z) ?_))))))))))))))))))
 rcases Bool.eq_false_or_eq_true (decide (a2 < 0)) with c3 | c3
 · have E:=iT c3 E
   refine off_ c3 z z z (off_ c3 z z z (off_ c3 z z z (v_ z (pT (.bool true) z z c3) (nl (wc_condT z (rg (v_ z (sg (.slice none 0 0) z) (v_ z (sg (.slice none 0 0) z) (v_ z (sg (.bool false) z) (nl (wc_ret ?_)))))))))))
   have H:=H.nilOwn (.int .u8) 5
   have H:=H.nilOwn (.int .u8) 5
   cases E
   exact (r_thn ⟨.inl z,_,tk0 z ⟨resN z (rv_t (rv_t (rv_t rv_nil))),_,_,z,H.sub3 0 1 2 z z z z z z⟩⟩)
 · have E:=iF c3 E
   refine on_ c3 z z (mv (.int .i64 a2) z) (on_ c3 z z (mv (.int .i64 (a1.length : Int)) z) (on_ c3 z z (r_gtr z z) (v_ z (pF (.bool (decide ((a1.length : Int) < a2))) z z c3) (nl ?_))))
   refine wc_cond z (fun c4=>?_) (fun c4=>?_)
   · have E:=iT c4 E
     refine rg (v_ z (sg (.slice none 0 0) z) (v_ z (sg (.slice none 0 0) z) (v_ z (sg (.bool false) z) (nl (wc_ret ?_)))))
     have H:=H.nilOwn (.int .u8) 5
     have H:=H.nilOwn (.int .u8) 5
     cases E
     exact (r_thn ⟨.inl z,_,tk0 z ⟨resN z (rv_t (rv_t (rv_t rv_nil))),_,_,z,H.sub3 0 1 2 z z z z z z⟩⟩)
   · have E:=iF c4 E
     cases E
def three_byRemainder_do.f (k : Nat) (a0 : (Int × Int × Int) × List Int × List Int) : Option (List Int × Bool):=(three_job_lacking.f k ((a0.1.1,a0.1.2.1,a0.1.2.2),a0.2.1,a0.2.2)).bind fun x2=>(euclid_Key.f x2.2.2 (a0.2.2.length : Int)).bind fun x7=>bif !x7.2.2 then (some (([] : List (Int)),false)) else ((poly_Mul.f k x7.1 x2.2.1).bind fun x13=>(three_job_mended.f k ((a0.1.1,a0.1.2.1,a0.1.2.2),a0.2.1,a0.2.2) x7.2.1 x13).bind fun x16=>some (x16.1,x16.2))
theorem three_byRemainder_do.calls {w0 : World} {k : Nat} {f0_ : FD} {a0 : (Int × Int × Int) × List Int × List Int} {v0_4_ : Value} {v0_5_ : Value} {r : List Int × Bool} (hf : (Rs.fld f0_).inv w0) (h0_4 : Rd (.of (.int .u8)) w0 (Ol (Rs.fld f0_).fp w0) v0_4_ a0.2.1) (h0_5 : Rd (.of (.int .i64)) w0 (Ol (Rs.fld f0_).fp w0) v0_5_ a0.2.2) (E : three_byRemainder_do.f k a0 = some r) :
   Calls Tryz.prog 131 #[.agg #[pt f0_.p,.int .i64 a0.1.1,.int .i64 a0.1.2.1,.int .i64 a0.1.2.2,v0_4_,v0_5_]] w0 fun e w'=>∃ (u0 : Value),e = .returned (.tuple #[u0,.bool r.2]) ∧ St (Rs.fld f0_).fp w0 w' [.fld f0_,.own (.int .u8) 5 u0 r.1]:=by
 have H:=St.start hf
 unfold three_byRemainder_do.f at E
 refine calls_of_wc (N:=44) (args:=[.agg #[pt f0_.p,.int .i64 a0.1.1,.int .i64 a0.1.2.1,.int .i64 a0.1.2.2,v0_4_,v0_5_]]) Tryz.func131 z z (by simp) ?_
 refine rg (e_ z (y_boxS (cs:=#[pt f0_.p,.int .i64 a0.1.1,.int .i64 a0.1.2.1,.int .i64 a0.1.2.2,v0_4_,v0_5_]) H z (fun b1 w H=>(v_ z (sg (.slice none 0 0) z) (v_ z (sg (.bool false) z) (nl (rg (v_ z (r_faddr e_fa_222_0 z) (v_ z (r_loadB (l:=[pt f0_.p,.int .i64 a0.1.1,.int .i64 a0.1.2.1,.int .i64 a0.1.2.2,v0_4_,v0_5_]) e_ag_218 (H.get 1 z) z z z) ?_)))))))))
 obtain ⟨x2,E3,E⟩:=bind_some E
 refine e_ z (y_callL e_en_178 z ((three_job_lacking.calls (H.get 0 z) (H.argX 0 z (H.rd h0_4)) (H.argX 0 z (H.rd h0_5)) E3).mono ?_))
 rintro _ w ⟨v4,v5,v6,rfl,K⟩
 have H:=H.appX 0 z K
 refine ⟨_,z,(v_ z (r_move) (v_ z (r_extract z z) (v_ z (r_extract z z) (v_ z (r_extract z z) (v_ z (sg v4 z) (v_ z (sg v5 z) (v_ z (sg v6 z) (nl (rg (v_ z (r_faddr e_fa_222_0 z) (v_ z (r_faddr e_fa_218_0 z) (v_ z (r_load e_sc_79 z (blk_cell (H.get 1 z) z)) (v_ z (mv v6 z) (v_ z (r_faddr e_fa_222_0 z) (v_ z (r_faddr e_fa_218_3 z) (v_ z (r_load e_sc_45 z (blk_cell (H.get 1 z) z)) (v_ z (r_lenR e_ul_45 (H.rd h0_5) z) ?_)))))))))))))))))⟩
 obtain ⟨x7,E8,E⟩:=bind_some E
 refine e_ z (y_callL e_en_183 z ((euclid_Key.calls (H.get 0 z) (H.ownX 4 0 z z z (own_rd (H.get 4 z))) E8).mono ?_))
 rintro _ w ⟨v9,v10,rfl,K⟩
 have H:=H.appX 0 z K
 refine ⟨_,z,(v_ z (r_move) (v_ z (r_extract z z) (v_ z (r_extract z z) (v_ z (r_extract z z) (v_ z (sg v9 z) (v_ z (sg v10 z) (v_ z (sg (.bool x7.2.2) z) (nl (wc_seq (rg (v_ z (mv (.bool x7.2.2) z) (v_ z (r_not z) (nl ?_)))))))))))))⟩
 refine wc_cond z (fun c12=>?_) (fun c12=>?_)
 · have E:=iT c12 E
   refine rg (v_ z (sg (.slice none 0 0) z) (v_ z (sg (.bool false) z) (nl (wc_ret ?_))))
   have H:=H.nilOwn (.int .u8) 5
   cases E
   exact (r_thn ⟨.inl z,_,tk0 z ⟨resN z (rv_t (rv_t rv_nil)),_,z,H.sub2 0 7 z z z⟩⟩)
 · have E:=iF c12 E
   refine wc_skip (n_thn (wc_seq (wc_drawnS (ds:=[]) e_mo H z z ?_)))
   have H:=H.drew
   refine wt 0 (tf 1 14) z z z (by kernel_rfl) H (fun w H=>(r_faddr e_fa_222_0 z)) (wt 1 (tf 2 14) z z z (by kernel_rfl) H (fun w H=>(r_loadB (l:=[pt f0_.p,.int .i64 a0.1.1,.int .i64 a0.1.2.1,.int .i64 a0.1.2.2,v0_4_,v0_5_]) e_ag_218 (H.get 1 z) z z z)) (wt 2 (tf 3 14) z z z (by kernel_rfl) H (fun w H=>(mv v10 z)) (wt 3 (tf 4 14) z z z (by kernel_rfl) H (fun w H=>(r_faddr e_fa_222_0 z)) (wt 4 (tf 5 14) z z z (by kernel_rfl) H (fun w H=>(r_faddr e_fa_218_0 z)) (wt 5 (tf 6 14) z z z (by kernel_rfl) H (fun w H=>(r_load e_sc_79 z (blk_cell (H.get 1 z) z))) (wt 6 (tf 7 14) z z z (by kernel_rfl) H (fun w H=>(mv v9 z)) (wt 7 (tf 8 14) z z z (by kernel_rfl) H (fun w H=>(mv v5 z)) ?_)))))))
   obtain ⟨x13,E14,E⟩:=bind_some E
   refine wa_one (i:=8) (l':=(tf 9 14)) z z z (by kernel_rfl) (y_callL e_en_180 z ((poly_Mul.calls (H.get 0 z) (H.ownX 5 0 z z z (own_rd (H.get 5 z))) (H.ownX 3 0 z z z (own_rd (H.get 3 z))) E14).mono ?_))
   rintro _ w ⟨v15,rfl,K⟩
   have H:=H.appX 0 z K
   refine ⟨_,z,⟨fun _=>H.sel [0,1,2,3,4,5,6] z z,?_⟩⟩
   obtain ⟨x16,E17,E⟩:=bind_some E
   refine wa_one (i:=9) (l':=(tf 10 14)) z z z (by kernel_rfl) (y_callL e_en_181 z ((three_job_mended.calls (H.get 0 z) (H.argX 0 z (H.rd h0_4)) (H.argX 0 z (H.rd h0_5)) (H.ownX 6 0 z z z (own_rd (H.get 6 z))) (H.ownX 7 0 z z z (own_rd (H.get 7 z))) E17).mono ?_))
   rintro _ w ⟨v18,rfl,K⟩
   have H:=H.appX 0 z K
   refine ⟨_,z,⟨fun _=>H.sel [0,1,2,3,4,5,6] z z,?_⟩⟩
   have H : St (Rs.fld f0_).fp w0 _ [.fld f0_,.blk b1 #[pt f0_.p,.int .i64 a0.1.1,.int .i64 a0.1.2.1,.int .i64 a0.1.2.2,v0_4_,v0_5_] 222,.own (.int .u8) 5 v4 x2.1,.own (.int .u8) 5 v5 x2.2.1,.own (.int .u8) 5 v6 x2.2.2,.own (.int .u8) 5 v9 x7.1,.own (.int .u8) 5 v10 x7.2.1,.own (.int .u8) 5 v15 x13,.own (.int .u8) 5 v18 x16.1]:=H
   refine wt 10 (tf 11 14) z z z (by kernel_rfl) (H.sel [0,1,2,3,4,5,6] z z) (fun w H=>(r_extract z z)) (wt 11 (tf 12 14) z z z (by kernel_rfl) (H.sel [0,1,2,3,4,5,6] z z) (fun w H=>(r_extract z z)) (wa_oneV (i:=12) (l':=(tf 13 14)) z z z (by kernel_rfl) ((H.sel [0,1,2,3,4,5,6] z z)) (sg v18 z) (wt 13 (tf 14 14) z z z (by kernel_rfl) (H.sel [0,1,2,3,4,5,6] z z) (fun w H=>(sg (.bool x16.2) z)) (wa_done (by kernel_rfl) (n_thn (wc_ret ?_))))))
   cases E
   exact ⟨.inl z,_,tk0 z ⟨resN z (rv_t (rv_t rv_nil)),_,z,H.sub2 0 8 z z z⟩⟩
end Go.Proofs.YtkndgkbgbmhjoaaGreatDoor.Gw
