/- The card of the law that what a desk encodes is read back from what it tells: a part of its proof. The conditions are those of the statement. -/
import Derived.Test.YtkndgkbgbmhjoaaGreatDoorQ4
import Derived.Test.YtkndgkbgbmhjoaaGreatDoorQ3
import Derived.Test.YtkndgkbgbmhjoaaGreatDoorQ11
namespace Go.Proofs.YtkndgkbgbmhjoaaGreatDoor.Gw
open Go Go.RowKit
set_option linter.unusedVariables false
set_option linter.unusedSimpArgs false
set_option linter.unusedSectionVars false
variable [LibO]
set_option linter.unnecessarySimpa false
set_option maxRecDepth 100000
set_option maxHeartbeats 4000000
open Go.IntKind (i8 i16 i32 i64 u8 u16 u32 u64)
def math_bits_Mul.f (a0 : Int) (a1 : Int) : Option (Int × Int):=(math_bits_Mul64.f a0 a1).bind fun x1=>some (x1.1,x1.2)
theorem math_bits_Mul.calls {w0 : World} {a0 : Int} {a1 : Int} {r : Int × Int}  (E : math_bits_Mul.f a0 a1 = some r) :
   Calls Tryz.prog 303 #[.int .u64 a0,.int .u64 a1] w0 fun e w'=>e = .returned (.tuple #[.int .u64 r.1,.int .u64 r.2]) ∧ St no w0 w' []:=by
 have H:=St.nil no w0
 unfold math_bits_Mul.f at E
 refine calls_of_wc (N:=30) (args:=[.int .u64 a0,.int .u64 a1]) Tryz.func303 z z (by simp) ?_
 refine rg (v_ z (sg (.int .u64 0) z) (v_ z (sg (.int .u64 0) z) (nl (wc_seq (wc_condF z (wc_skip (n_thn (rg (v_ z (mv (.int .u64 a0) z) (v_ z (mv (.int .u64 a1) z) ?_))))))))))
 obtain ⟨x1,E2,E⟩:=bind_some E
 refine e_ z (y_callL e_en_323 z ((math_bits_Mul64.calls E2).mono ?_))
 rintro _ w ⟨rfl,K⟩
 have H:=H.app K
 refine ⟨_,z,(v_ z (r_move) (v_ z (r_extract z z) (v_ z (r_extract z z) (v_ z (sg (.int .u64 x1.1) z) (v_ z (sg (.int .u64 x1.2) z) (nl (rg (v_ z (mv (.int .u64 x1.1) z) (v_ z (mv (.int .u64 x1.2) z) (v_ z (sg (.int .u64 x1.1) z) (v_ z (sg (.int .u64 x1.2) z) (nl (wc_ret ?_)))))))))))))⟩
 cases E
 exact ⟨.inl z,_,tk0 z ⟨resN z (rv_t (rv_t rv_nil)),z,H.sub0⟩⟩
def slices_Repeat.l0 : Nat → List (Int) → Int → Option (List Int)
 | 0,_,_=>none
 | k + 1,l34,x35=>bif decide (x35 < (l34.length : Int)) then (grd (decide ((0 : Int) ≤ x35 ∧ x35 ≤ (l34.length : Int))) (grd (decide ((0 : Int) ≤ x35 ∧ x35 ≤ (l34.length : Int))) (slices_Repeat.l0 k (cpy x35.toNat (l34.length - x35.toNat) ((l34.take x35.toNat).drop 0) l34) (i64.wrap (x35 + (((min ((l34.take x35.toNat).drop 0).length (l34.length - x35.toNat) : Nat) : Int))))))) else (some l34)
def slices_Repeat.f (k : Nat) (a0 : List Int) (a1 : Int) : Option (List Int):=bif decide (a1 < 0) then (none) else ((math_bits_Mul.f (u64.wrap (a0.length : Int)) (u64.wrap a1)).bind fun x3=>bif decide (0 < x3.1) then (none) else (bif decide (9223372036854775807 < x3.2) then (none) else (grd (decide ((0 : Int) ≤ i64.wrap x3.2 ∧ i64.wrap x3.2 ≤ i64.wrap x3.2 ∧ i64.wrap x3.2 ≤ 140737488355328)) (slices_Repeat.l0 k (cpy 0 (List.replicate (i64.wrap x3.2).toNat (0 : Int)).length a0 (List.replicate (i64.wrap x3.2).toNat (0 : Int))) (((min a0.length (List.replicate (i64.wrap x3.2).toNat (0 : Int)).length : Nat) : Int))))))
theorem slices_Repeat.calls {w0 : World} {k : Nat} {a0 : List Int} {a1 : Int} {v0_ : Value} {r : List Int} (h0 : Rd (.of (.int .u8)) w0 (Ol no w0) v0_ a0) (E : slices_Repeat.f k a0 a1 = some r) :
   Calls Tryz.prog 271 #[v0_,.int .i64 a1] w0 fun e w'=>∃ (u0 : Value),e = .returned (u0) ∧ St no w0 w' [.own (.int .u8) 5 u0 r]:=by
 have H:=St.nil no w0
 unfold slices_Repeat.f at E
 refine calls_of_wc (N:=48) (args:=[v0_,.int .i64 a1]) Tryz.func271 z z (by simp) ?_
 refine rg (v_ z (sg (.slice none 0 0) z) (nl (wc_seq (rg (v_ z (mv (.int .i64 a1) z) (v_ z (r_lss z z) (nl ?_)))))))
 refine wc_cond z (fun c2=>?_) (fun c2=>?_)
 · have E:=iT c2 E
   refine wc_region ?_
   cases E
 · have E:=iF c2 E
   refine wc_skip (n_thn (rg (v_ z (mv v0_ z) (v_ z (r_lenR e_ul_22 (H.rd h0) z) (v_ z (r_conv z Tryz.underlying3 Tryz.underlying130) (v_ z (mv (.int .i64 a1) z) (v_ z (r_conv z Tryz.underlying3 Tryz.underlying130) ?_)))))))
   obtain ⟨x3,E4,E⟩:=bind_some E
   refine e_ z (y_callL e_en_303 z ((math_bits_Mul.calls E4).mono ?_))
   rintro _ w ⟨rfl,K⟩
   have H:=H.app K
   refine ⟨_,z,(v_ z (r_move) (v_ z (r_extract z z) (v_ z (r_extract z z) (v_ z (sg (.int .u64 x3.1) z) (v_ z (sg (.int .u64 x3.2) z) (nl (wc_seq (rg (v_ z (mv (.int .u64 x3.1) z) (v_ z (r_gtr z z) (v_ z (mv (.bool (decide (0 < x3.1))) z) ?_)))))))))))⟩
   rcases Bool.eq_false_or_eq_true (decide (0 < x3.1)) with c7 | c7
   · have E:=iT c7 E
     refine off_ c7 z z z (off_ c7 z z z (v_ z (pT (.bool true) z z c7) (nl (wc_condT z (wc_region ?_)))))
     cases E
   · have E:=iF c7 E
     refine on_ c7 z z (mv (.int .u64 x3.2) z) (on_ c7 z z (r_gtr z z) (v_ z (pF (.bool (decide (9223372036854775807 < x3.2))) z z c7) (nl ?_)))
     refine wc_cond z (fun c8=>?_) (fun c8=>?_)
     · have E:=iT c8 E
       refine wc_region ?_
       cases E
     · have E:=iF c8 E
       refine wc_skip (n_thn (rg (v_ z (mv (.int .u64 x3.2) z) (v_ z (r_conv z Tryz.underlying130 Tryz.underlying3) ?_))))
       obtain ⟨⟨g10,g11,g12⟩,E⟩:=grd_some E
       refine e_ z (y_make (e:=(.int .u8)) (z0:=0) e_sl_22 z H z z g10 g11 (by omega) (by omega) (fun v9 w H=>(v_ z (sg v9 z) (nl (rg (v_ z (mv v9 z) (v_ z (mv v0_ z) (e_ z (y_copy e_sl_22 H 0 z (H.rd h0) z z (fun w H=>(v_ z (sg (.int .i64 (((min a0.length (List.replicate (i64.wrap x3.2).toNat (0 : Int)).length : Nat) : Int))) z) (nl (wc_seq (wc_block ?_))))))))))))))
       refine wc_loop (fun kk t w=>∃ (l34 : List (Int)) (x35 : Int) (t59 : Fr),kk ≤ k ∧ slices_Repeat.l0 kk l34 x35 = some r ∧ t = upds t59 [(4,.slice none 0 0),(7,v9),(8,.int .i64 x35),(1000000,undef)] ∧ St no w0 w [.own (.int .u8) 5 v9 l34]) k ?_ ?_
       · exact ⟨_,_,_,Nat.le_refl _,E,upds_eq ⟨z,z,z,z,trivial⟩,H⟩
       rintro kk t w ⟨l34,x35,t59,hk58,E,rfl,H⟩
       obtain ⟨k57,rfl⟩ | rfl : (∃ k',kk = k' + 1) ∨ kk = 0:=by cases kk; exact .inr rfl; exact .inl ⟨_,rfl⟩
       rotate_left
       · cases E
       rw [slices_Repeat.l0] at E
       refine wc_seq (rg (v_ z (mv (.int .i64 x35) z) (v_ z (mv v9 z) (v_ z (r_lenR e_ul_22 (own_rd (H.get 0 z)) z) (v_ z (r_lss z z) (nl ?_))))))
       refine wc_cond z (fun c60=>?_) (fun c60=>?_)
       · have E:=iT c60 E
         refine wc_skip (n_thn (wc_block (wc_drawnW (ds:=[]) (fun w=>∃ l' : List (Int),l'.length = l34.length ∧ St no w0 w [.own (.int .u8) 5 v9 l']) e_mo H z z ?_)))
         have H:=H.drew
         refine wt 0 (tf 1 10) z z z (by kernel_rfl) ⟨_,z,H⟩ (fun w ⟨l',e',H⟩=>(mv (.int .i64 x35) z)) (wt 1 (tf 2 10) z z z (by kernel_rfl) ⟨_,z,H⟩ (fun w ⟨l',e',H⟩=>(mv v9 z)) (wt 2 (tf 3 10) z z z (by kernel_rfl) ⟨_,z,H⟩ (fun w ⟨l',e',H⟩=>(mv (.int .i64 x35) z)) ?_))
         obtain ⟨⟨g71,g72⟩,E⟩:=grd_some E
         have p74 : x35.toNat ≤ l34.length:=by omega
         have p75 : l34.length ≤ l34.length:=by omega
         refine wt 3 (tf 4 10) z z z (by kernel_rfl) ⟨_,z,H⟩ (fun w ⟨l',e',H⟩=>(r_slcLRe e' e_sl_22 (own_rd (H.get 0 z)) z z g71 g72)) (wt 4 (tf 5 10) z z z (by kernel_rfl) ⟨_,z,H⟩ (fun w ⟨l',e',H⟩=>(mv v9 z)) (wt 5 (tf 6 10) z z z (by kernel_rfl) ⟨_,z,H⟩ (fun w ⟨l',e',H⟩=>(mv (.int .i64 x35) z)) ?_))
         obtain ⟨⟨g76,g77⟩,E⟩:=grd_some E
         have p79 : 0 ≤ x35.toNat:=by omega
         have p80 : x35.toNat ≤ l34.length:=by omega
         refine wt 6 (tf 7 10) z z z (by kernel_rfl) ⟨_,z,H⟩ (fun w ⟨l',e',H⟩=>(r_slcHRe e' e_sl_22 (own_rd (H.get 0 z)) z z g76 g77)) (wa_one (i:=7) (l':=(tf 8 10)) z z z (by kernel_rfl) (y_copyP (by omega) (by simpa using p75) e_sl_22 H 0 z (Rd.slv (own_rd (H.get 0 z)) p79 p80) z z (fun w H=>⟨fun _=>⟨_,cpy_length _ (by omega),H.sel [0] z z⟩,(wt 8 (tf 9 10) z z z (by kernel_rfl) ⟨_,cpy_length _ (by omega),H.sel [0] z z⟩ (fun w ⟨l',e',H⟩=>(r_add z z)) (wt 9 (tf 10 10) z z z (by kernel_rfl) ⟨_,cpy_length _ (by omega),H.sel [0] z z⟩ (fun w ⟨l',e',H⟩=>(sg (.int .i64 (i64.wrap (x35 + (((min ((l34.take x35.toNat).drop 0).length (l34.length - x35.toNat) : Nat) : Int))))) z)) (wa_done (by kernel_rfl) (n_bk ?_))))⟩)))
         exact ⟨k57,Nat.lt_succ_self _,_,_,_,Nat.le_of_succ_le hk58,E,upds_eq ⟨z,z,z,z,trivial⟩,H⟩
       · have E:=iF c60 E
         refine wc_exit (x_thn (x_thn (x_bk (n_thn (rg (v_ z (mv v9 z) (v_ z (sg v9 z) (nl (wc_ret ?_)))))))))
         cases E
         exact ⟨.inl z,_,tk0 z ⟨resN z (rv_t rv_nil),_,z,H.sub1 0 z⟩⟩
def field_Field_Each.f (k : Nat) (a1 : Int) (a2 : List Int) : Option (List Int):=(slices_Repeat.f k ([a1]) (a2.length : Int)).bind fun x2=>(field_Field_Pairs.f x2 a2).bind fun x5=>some x5
theorem field_Field_Each.calls {w0 : World} {k : Nat} {f0_ : FD} {a1 : Int} {a2 : List Int} {v2_ : Value} {r : List Int} (hf : (Rs.fld f0_).inv w0) (h2 : Rd (.of (.int .u8)) w0 (Ol (Rs.fld f0_).fp w0) v2_ a2) (E : field_Field_Each.f k a1 a2 = some r) :
   Calls Tryz.prog 223 #[pt f0_.p,.int .u8 a1,v2_] w0 fun e w'=>∃ (u0 : Value),e = .returned (u0) ∧ St (Rs.fld f0_).fp w0 w' [.fld f0_,.own (.int .u8) 5 u0 r]:=by
 have H:=St.start hf
 unfold field_Field_Each.f at E
 refine calls_of_wc (N:=15) (args:=[pt f0_.p,.int .u8 a1,v2_]) Tryz.func223 z z (by simp) ?_
 refine rg (v_ z (sg (.slice none 0 0) z) (nl (rg (v_ z (mv (pt f0_.p) z) (v_ z (mv (.int .u8 a1) z) (e_ z (y_bsL (e:=(.int .u8)) (l:=[a1]) e_sl_22 H z (by decide) ⟨z,z,trivial⟩ (by decide) (fun v1 w H=>(v_ z (mv v2_ z) (v_ z (r_lenR e_ul_22 (H.rd h2) z) ?_))))))))))
 obtain ⟨x2,E3,E⟩:=bind_some E
 refine e_ z (y_callL e_en_271 z ((slices_Repeat.calls (H.own 1 z (own_rd (H.get 1 z))) E3).mono ?_))
 rintro _ w ⟨v4,rfl,K⟩
 have H:=H.app K
 refine ⟨_,z,(v_ z (mv v2_ z) ?_)⟩
 obtain ⟨x5,E6,E⟩:=bind_some E
 refine e_ z (y_callL e_en_248 z ((field_Field_Pairs.calls (H.get 0 z) (H.ownX 2 0 z z z (own_rd (H.get 2 z))) (H.argX 0 z (H.rd h2)) E6).mono ?_))
 rintro _ w ⟨v7,rfl,K⟩
 have H:=H.appX 0 z K
 refine ⟨_,z,(v_ z (sg v7 z) (nl (wc_ret ?_)))⟩
 cases E
 exact ⟨.inl z,_,tk0 z ⟨resN z (rv_t rv_nil),_,z,H.sub2 0 3 z z z⟩⟩
def quot_Div.j0 (k : Nat) (l188 : List (Int)) (l189 : List (Int)) : Option (List Int × List Int × Bool):=(poly_Norm.f k l189).bind fun x401=>some (x401,l188,true)
def quot_Div.j1 (l0r : List Int → Int → (Int × Bool) → List (Int) → List (Int) → Option (List Int × List Int × Bool)) (k : Nat) (a2 : List Int) (x1 : Int) (x7 : Int × Bool) (l248 : List (Int)) (l249 : List (Int)) (x311 : Int) (l353 : List (Int)) : Option (List Int × List Int × Bool):=(poly_Deg.f k l353).bind fun x394=>grd (decide ((0 : Int) ≤ i64.wrap (x394 + 1) ∧ i64.wrap (x394 + 1) ≤ (l353.length : Int))) (l0r a2 x1 x7 (l353.take ((i64.wrap (x394 + 1)).toNat)) (l249.set (i64.wrap ((i64.wrap ((l248.length : Int) - 1)) - x1)).toNat x311))
mutual
def quot_Div.l0 : Nat → List Int → Int → (Int × Bool) → List (Int) → List (Int) → Option (List Int × List Int × Bool)
 | 0,_,_,_,_,_=>none
 | k + 1,a2,x1,x7,l248,l249=>bif decide (i64.wrap ((l248.length : Int) - 1) < x1) then (quot_Div.j0 k l248 l249) else (grd (decide ((0 : Int) ≤ i64.wrap ((l248.length : Int) - 1) ∧ i64.wrap ((l248.length : Int) - 1) < (l248.length : Int))) ((field_Field_Mul.f (at_ 0 l248 (i64.wrap ((l248.length : Int) - 1))) x7.1).bind fun x311=>grd (decide ((0 : Int) ≤ i64.wrap ((i64.wrap ((l248.length : Int) - 1)) - x1) ∧ i64.wrap ((i64.wrap ((l248.length : Int) - 1)) - x1) < (l249.length : Int))) (grd (decide ((0 : Int) ≤ i64.wrap (x1 + 1) ∧ i64.wrap (x1 + 1) ≤ (a2.length : Int))) ((field_Field_Each.f k x311 ((a2.take ((i64.wrap (x1 + 1)).toNat)).drop 0)).bind fun x362=>quot_Div.l1 k a2 x1 x7 l248 l249 x311 x362 l248 0))))
def quot_Div.l1 : Nat → List Int → Int → (Int × Bool) → List (Int) → List (Int) → Int → List Int → List (Int) → Int → Option (List Int × List Int × Bool)
 | 0,_,_,_,_,_,_,_,_,_=>none
 | k + 1,a2,x1,x7,l248,l249,x311,x362,l373,x374=>bif decide (x374 < (x362.length : Int)) then (grd (decide ((0 : Int) ≤ x374 ∧ x374 < (x362.length : Int))) (grd (decide ((0 : Int) ≤ i64.wrap ((i64.wrap ((i64.wrap ((l248.length : Int) - 1)) - x1)) + x374) ∧ i64.wrap ((i64.wrap ((i64.wrap ((l248.length : Int) - 1)) - x1)) + x374) < (l373.length : Int))) (grd (decide ((0 : Int) ≤ i64.wrap ((i64.wrap ((i64.wrap ((l248.length : Int) - 1)) - x1)) + x374) ∧ i64.wrap ((i64.wrap ((i64.wrap ((l248.length : Int) - 1)) - x1)) + x374) < (l373.length : Int))) (quot_Div.l1 k a2 x1 x7 l248 l249 x311 x362 (l373.set (i64.wrap ((i64.wrap ((i64.wrap ((l248.length : Int) - 1)) - x1)) + x374)).toNat (bits .xor .u8 (at_ 0 l373 (i64.wrap ((i64.wrap ((i64.wrap ((l248.length : Int) - 1)) - x1)) + x374))) (at_ 0 x362 x374))) (i64.wrap (x374 + 1)))))) else (quot_Div.j1 (quot_Div.l0 k) k a2 x1 x7 l248 l249 x311 l373)
end
def quot_Div.f (k : Nat) (a1 : List Int) (a2 : List Int) : Option (List Int × List Int × Bool):=(poly_Deg.f k a2).bind fun x1=>bif decide (x1 < 0) then (some (([] : List (Int)),([] : List (Int)),false)) else (grd (decide ((0 : Int) ≤ x1 ∧ x1 < (a2.length : Int))) ((field_Field_Inv.f (at_ 0 a2 x1)).bind fun x7=>(poly_Norm.f k a1).bind fun x9=>grd (decide ((0 : Int) ≤ max2 (i64.wrap ((x9.length : Int) - x1)) 0 ∧ max2 (i64.wrap ((x9.length : Int) - x1)) 0 ≤ max2 (i64.wrap ((x9.length : Int) - x1)) 0 ∧ max2 (i64.wrap ((x9.length : Int) - x1)) 0 ≤ 140737488355328)) (quot_Div.l0 k a2 x1 x7 x9 (List.replicate (max2 (i64.wrap ((x9.length : Int) - x1)) 0).toNat (0 : Int)))))
theorem quot_Div.calls {w0 : World} {k : Nat} {f0_ : FD} {a1 : List Int} {a2 : List Int} {v1_ : Value} {v2_ : Value} {r : List Int × List Int × Bool} (hf : (Rs.fld f0_).inv w0) (h1 : Rd (.of (.int .u8)) w0 (Ol (Rs.fld f0_).fp w0) v1_ a1) (h2 : Rd (.of (.int .u8)) w0 (Ol (Rs.fld f0_).fp w0) v2_ a2) (E : quot_Div.f k a1 a2 = some r) :
   Calls Tryz.prog 172 #[pt f0_.p,v1_,v2_] w0 fun e w'=>∃ (u0 : Value) (u1 : Value),e = .returned (.tuple #[u0,u1,.bool r.2.2]) ∧ St (Rs.fld f0_).fp w0 w' [.fld f0_,.own (.int .u8) 5 u0 r.1,.own (.int .u8) 5 u1 r.2.1]:=by
 have H:=St.start hf
 unfold quot_Div.f at E
 refine calls_of_wc (N:=95) (args:=[pt f0_.p,v1_,v2_]) Tryz.func172 z z (by simp) ?_
 refine rg (v_ z (sg (.slice none 0 0) z) (v_ z (sg (.slice none 0 0) z) (v_ z (sg (.bool false) z) (nl (wc_scope (rg (v_ z (mv v2_ z) ?_)))))))
 obtain ⟨x1,E2,E⟩:=bind_some E
 refine e_ z (y_callL e_en_220 z ((poly_Deg.calls (H.arg (H.rd h2)) E2).mono ?_))
 rintro _ w ⟨rfl,K⟩
 have H:=H.app K
 refine ⟨_,z,(v_ z (sg (.int .i64 x1) z) (nl (wc_seq (rg (v_ z (mv (pt f0_.p) z) (v_ z (r_peql0 Tryz.underlying79 z z) (v_ z (mv (.bool false) z) (on_ z z z (mv (.int .i64 x1) z) (on_ z z z (r_lss z z) (v_ z (pF (.bool (decide (x1 < 0))) z z z) (nl ?_)))))))))))⟩
 refine wc_cond z (fun c4=>?_) (fun c4=>?_)
 · have E:=iT c4 E
   refine rg (v_ z (sg (.slice none 0 0) z) (v_ z (sg (.slice none 0 0) z) (v_ z (sg (.bool false) z) (nl (wc_ret ?_)))))
   have H:=H.nilOwn (.int .u8) 5
   have H:=H.nilOwn (.int .u8) 5
   cases E
   exact (r_thn (r_sc ⟨.inl z,_,tk0 z ⟨resN z (rv_t (rv_t (rv_t rv_nil))),_,_,z,H.sub3 0 1 2 z z z z z z⟩⟩))
 · have E:=iF c4 E
   refine wc_skip (n_thn (rg (v_ z (mv (pt f0_.p) z) (v_ z (mv v2_ z) (v_ z (mv (.int .i64 x1) z) ?_)))))
   obtain ⟨⟨g5,g6⟩,E⟩:=grd_some E
   refine v_ z (r_idx e_sl_22 (H.rd h2) z z g5 g6) (v_ z (r_ldI e_sc_5 (H.rd h2) g5 g6 z) ?_)
   obtain ⟨x7,E8,E⟩:=bind_some E
   refine e_ z (y_callL e_en_221 z ((field_Field_Inv.calls (H.get 0 z) E8).mono ?_))
   rintro _ w ⟨rfl,K⟩
   have H:=H.appX 0 z K
   refine ⟨_,z,(v_ z (r_move) (v_ z (r_extract z z) (v_ z (r_extract z z) (v_ z (sg (.int .u8 x7.1) z) (v_ z (sg (.bool x7.2) z) (nl (rg (v_ z (mv v1_ z) ?_))))))))⟩
   obtain ⟨x9,E10,E⟩:=bind_some E
   refine e_ z (y_callL e_en_222 z ((poly_Norm.calls (H.arg (H.rd h1)) E10).mono ?_))
   rintro _ w ⟨v11,rfl,K⟩
   have H:=H.app K
   refine ⟨_,z,(v_ z (sg v11 z) (nl (rg (v_ z (mv v11 z) (v_ z (r_lenR e_ul_22 (own_rd (H.get 1 z)) z) (v_ z (mv (.int .i64 x1) z) (v_ z (r_sub z z) (v_ z (r_max z z) ?_))))))))⟩
   obtain ⟨⟨g13,g14,g15⟩,E⟩:=grd_some E
   refine e_ z (y_make (e:=(.int .u8)) (z0:=0) e_sl_22 z H z z g13 g14 (by omega) (by omega) (fun v12 w H=>(v_ z (sg v12 z) (nl (wc_seq (wc_label (n_thn ?_)))))))
   refine wc_seqJ (fun t w=>∃ (k191 : Nat) (l188 : List (Int)) (l189 : List (Int)) (v187 : Value) (t190 : Fr),k191 ≤ k ∧ quot_Div.j0 k191 l188 l189 = some r ∧ t = upds t190 [(6,.slice none 0 0),(7,.slice none 0 0),(8,.bool false),(12,v187),(13,v12),(1000000,undef)] ∧ St (Rs.fld f0_).fp w0 w [.fld f0_,.own (.int .u8) 5 v187 l188,.own (.int .u8) 5 v12 l189]) ?_ ?_
   · refine wc_block ?_
     refine wc_loop (fun kk t w=>∃ (l248 : List (Int)) (l249 : List (Int)) (v247 : Value) (t306 : Fr),kk ≤ k ∧ quot_Div.l0 kk a2 x1 x7 l248 l249 = some r ∧ t = upds t306 [(0,pt f0_.p),(2,v2_),(6,.slice none 0 0),(7,.slice none 0 0),(8,.bool false),(9,.int .i64 x1),(10,.int .u8 x7.1),(12,v247),(13,v12),(1000000,undef)] ∧ St (Rs.fld f0_).fp w0 w [.fld f0_,.own (.int .u8) 5 v247 l248,.own (.int .u8) 5 v12 l249]) k ?_ ?_
     · exact ⟨_,_,_,_,Nat.le_refl _,E,upds_eq ⟨z,z,z,z,z,z,z,z,z,z,trivial⟩,H⟩
     rintro kk t w ⟨l248,l249,v247,t306,hk305,E,rfl,H⟩
     obtain ⟨k304,rfl⟩ | rfl : (∃ k',kk = k' + 1) ∨ kk = 0:=by cases kk; exact .inr rfl; exact .inl ⟨_,rfl⟩
     rotate_left
     · cases E
     rw [quot_Div.l0] at E
     refine wc_block (rg (v_ z (mv v247 z) (v_ z (r_lenR e_ul_22 (own_rd (H.get 1 z)) z) (v_ z (r_sub z z) (v_ z (sg (.int .i64 (i64.wrap ((l248.length : Int) - 1))) z) (nl (wc_seq (rg (v_ z (mv (.int .i64 (i64.wrap ((l248.length : Int) - 1))) z) (v_ z (mv (.int .i64 x1) z) (v_ z (r_lss z z) (nl ?_))))))))))))
     refine wc_cond z (fun c308=>?_) (fun c308=>?_)
     · have E:=iT c308 E
       refine wc_exit (x_thn (x_bkne z (x_thn (x_bk ?_))))
       exact ⟨k304,_,_,_,_,by omega,E,upds_eq ⟨z,z,z,z,z,z,trivial⟩,H⟩
     · have E:=iF c308 E
       refine wc_skip (n_thn (rg (v_ z (mv (pt f0_.p) z) (v_ z (mv v247 z) (v_ z (mv (.int .i64 (i64.wrap ((l248.length : Int) - 1))) z) ?_)))))
       obtain ⟨⟨g309,g310⟩,E⟩:=grd_some E
       refine v_ z (r_idx e_sl_22 (own_rd (H.get 1 z)) z z g309 g310) (v_ z (r_ldI e_sc_5 (own_rd (H.get 1 z)) g309 g310 z) (v_ z (mv (.int .u8 x7.1) z) ?_))
       obtain ⟨x311,E312,E⟩:=bind_some E
       refine e_ z (y_callL e_en_195 z ((field_Field_Mul.calls (H.get 0 z) E312).mono ?_))
       rintro _ w ⟨rfl,K⟩
       have H:=H.appX 0 z K
       refine ⟨_,z,(v_ z (sg (.int .u8 x311) z) (nl (rg (v_ z (mv v12 z) (v_ z (mv (.int .i64 (i64.wrap ((l248.length : Int) - 1))) z) (v_ z (mv (.int .i64 x1) z) (v_ z (r_sub z z) (v_ z (mv (.int .u8 x311) z) ?_))))))))⟩
       obtain ⟨⟨g313,g314⟩,E⟩:=grd_some E
       refine v_ z (r_idx e_sl_22 (own_rd (H.get 2 z)) z z g313 g314) (s_ (y_storeI e_sz_5 H 2 z g313 g314 z z (fun w H=>(nl ?_))))
       refine wc_seqJ (fun t w=>∃ (k355 : Nat) (l353 : List (Int)) (t354 : Fr),k355 ≤ k304 ∧ quot_Div.j1 (quot_Div.l0 k355) k355 a2 x1 x7 l248 l249 x311 l353 = some r ∧ t = upds t354 [(0,pt f0_.p),(2,v2_),(6,.slice none 0 0),(7,.slice none 0 0),(8,.bool false),(9,.int .i64 x1),(10,.int .u8 x7.1),(12,v247),(13,v12),(1000000,undef)] ∧ St (Rs.fld f0_).fp w0 w [.fld f0_,.own (.int .u8) 5 v247 l353,.own (.int .u8) 5 v12 (l249.set (i64.wrap ((i64.wrap ((l248.length : Int) - 1)) - x1)).toNat x311)]) ?_ ?_
       · refine rg (v_ z (mv (pt f0_.p) z) (v_ z (mv (.int .u8 x311) z) (v_ z (mv v2_ z) (v_ z (mv (.int .i64 x1) z) (v_ z (r_add z z) ?_)))))
         obtain ⟨⟨g357,g358⟩,E⟩:=grd_some E
         have p360 : 0 ≤ (i64.wrap (x1 + 1)).toNat:=by omega
         have p361 : (i64.wrap (x1 + 1)).toNat ≤ a2.length:=by omega
         refine v_ z (r_slcHR e_sl_22 (H.rd h2) z z g357 g358) ?_
         obtain ⟨x362,E363,E⟩:=bind_some E
         refine e_ z (y_callL e_en_223 z ((field_Field_Each.calls (H.get 0 z) (H.argX 0 z (Rd.slv (H.rd h2) p360 p361)) E363).mono ?_))
         rintro _ w ⟨v364,rfl,K⟩
         have H:=H.appX 0 z K
         refine ⟨_,z,(v_ z (r_lenR e_ul_22 (own_rd (H.get 3 z)) z) (v_ z (mv (.int .i64 0) z) (nl (wc_block ?_))))⟩
         refine wc_loop (fun kk t w=>∃ (l373 : List (Int)) (x374 : Int) (t385 : Fr),kk ≤ k304 ∧ quot_Div.l1 kk a2 x1 x7 l248 l249 x311 x362 l373 x374 = some r ∧ t = upds t385 [(0,pt f0_.p),(2,v2_),(6,.slice none 0 0),(7,.slice none 0 0),(8,.bool false),(9,.int .i64 x1),(10,.int .u8 x7.1),(12,v247),(13,v12),(14,.int .i64 (i64.wrap ((l248.length : Int) - 1))),(68,v364),(69,.int .i64 (x362.length : Int)),(70,.int .i64 x374),(1000000,undef)] ∧ St (Rs.fld f0_).fp w0 w [.fld f0_,.own (.int .u8) 5 v247 l373,.own (.int .u8) 5 v12 (l249.set (i64.wrap ((i64.wrap ((l248.length : Int) - 1)) - x1)).toNat x311),.own (.int .u8) 5 v364 x362]) k304 ?_ ?_
         · exact ⟨_,_,_,Nat.le_refl _,E,upds_eq ⟨z,z,z,z,z,z,z,z,z,z,z,z,z,z,trivial⟩,H⟩
         rintro kk t w ⟨l373,x374,t385,hk384,E,rfl,H⟩
         obtain ⟨k383,rfl⟩ | rfl : (∃ k',kk = k' + 1) ∨ kk = 0:=by cases kk; exact .inr rfl; exact .inl ⟨_,rfl⟩
         rotate_left
         · cases E
         rw [quot_Div.l1] at E
         refine rg (v_ z (r_lss z z) (nl (wc_seq ?_)))
         refine wc_cond z (fun c387=>?_) (fun c387=>?_)
         · have E:=iT c387 E
           refine wc_skip (n_thn (wc_seq (wc_block (rg (v_ z (mv (.int .i64 x374) z) ?_)))))
           obtain ⟨⟨g388,g389⟩,E⟩:=grd_some E
           refine v_ z (r_idx e_sl_22 (own_rd (H.get 3 z)) z z g388 g389) (v_ z (r_ldI e_sc_5 (own_rd (H.get 3 z)) g388 g389 z) (v_ z (sg (.int .i64 x374) z) (v_ z (sg (.int .u8 (at_ 0 x362 x374)) z) (nl (wc_region (v_ z (mv v247 z) (v_ z (mv (.int .i64 (i64.wrap ((l248.length : Int) - 1))) z) (v_ z (mv (.int .i64 x1) z) (v_ z (r_sub z z) (v_ z (mv (.int .i64 x374) z) (v_ z (r_add z z) ?_)))))))))))
           obtain ⟨⟨g390,g391⟩,E⟩:=grd_some E
           refine v_ z (r_idx e_sl_22 (own_rd (H.get 1 z)) z z g390 g391) (v_ z (r_ldI e_sc_5 (own_rd (H.get 1 z)) g390 g391 z) (v_ z (mv (.int .u8 (at_ 0 x362 x374)) z) (v_ z (r_xor z z) ?_)))
           obtain ⟨⟨g392,g393⟩,E⟩:=grd_some E
           refine v_ z (r_idx e_sl_22 (own_rd (H.get 1 z)) z z g392 g393) (s_ (y_storeI e_sz_5 H 1 z g392 g393 z z (fun w H=>(wl_nil (n_bk (n_thn (wc_region (v_ z (r_add z z) (v_ z (mv (.int .i64 (i64.wrap (x374 + 1))) z) (wl_nil ?_))))))))))
           exact ⟨k383,Nat.lt_succ_self _,_,_,_,Nat.le_of_succ_le hk384,E,upds_eq ⟨z,z,z,z,z,z,z,z,z,z,z,z,z,z,trivial⟩,H⟩
         · have E:=iF c387 E
           refine wc_exit (x_thn (x_thn (x_bk ?_)))
           exact ⟨k383,_,_,by omega,E,upds_eq ⟨z,z,z,z,z,z,z,z,z,z,trivial⟩,H.sel [0,1,2] z z⟩
       rintro t w ⟨k355,l353,t354,hk356,E,rfl,H⟩
       unfold quot_Div.j1 at E
       refine wc_region (v_ z (mv v247 z) (v_ z (mv v247 z) ?_))
       obtain ⟨x394,E395,E⟩:=bind_some E
       refine e_ z (y_callL e_en_220 z ((poly_Deg.calls (H.own 1 z (own_rd (H.get 1 z))) E395).mono ?_))
       rintro _ w ⟨rfl,K⟩
       have H:=H.app K
       refine ⟨_,z,(v_ z (r_add z z) ?_)⟩
       obtain ⟨⟨g396,g397⟩,E⟩:=grd_some E
       have p399 : 0 ≤ (i64.wrap (x394 + 1)).toNat:=by omega
       have p400 : (i64.wrap (x394 + 1)).toNat ≤ l353.length:=by omega
       refine v_ z (r_slcHR e_sl_22 (own_rd (H.get 1 z)) z z g396 g397) (v_ z (sg ((slv v247 0 ((i64.wrap (x394 + 1)).toNat) 1)) z) (wl_nil (n_bk ?_)))
       have H:=H.trunc 1 z p400
       exact ⟨k355,by omega,_,_,_,_,by omega,E,upds_eq ⟨z,z,z,z,z,z,z,z,z,z,trivial⟩,H⟩
   rintro t w ⟨k191,l188,l189,v187,t190,hk192,E,rfl,H⟩
   unfold quot_Div.j0 at E
   refine rg (v_ z (mv v12 z) ?_)
   obtain ⟨x401,E402,E⟩:=bind_some E
   refine e_ z (y_callL e_en_222 z ((poly_Norm.calls (H.own 2 z (own_rd (H.get 2 z))) E402).mono ?_))
   rintro _ w ⟨v403,rfl,K⟩
   have H:=H.app K
   refine ⟨_,z,(v_ z (mv v187 z) (v_ z (sg v403 z) (v_ z (sg v187 z) (v_ z (sg (.bool true) z) (nl (wc_ret ?_))))))⟩
   cases E
   exact (r_sc ⟨.inl z,_,tk0 z ⟨resN z (rv_t (rv_t (rv_t rv_nil))),_,_,z,H.sub3 0 3 1 z z z z z z⟩⟩)
def quot_Mod.f (k : Nat) (a1 : List Int) (a2 : List Int) : Option (List Int × Bool):=(quot_Div.f k a1 a2).bind fun x1=>some (x1.2.1,x1.2.2)
theorem quot_Mod.calls {w0 : World} {k : Nat} {f0_ : FD} {a1 : List Int} {a2 : List Int} {v1_ : Value} {v2_ : Value} {r : List Int × Bool} (hf : (Rs.fld f0_).inv w0) (h1 : Rd (.of (.int .u8)) w0 (Ol (Rs.fld f0_).fp w0) v1_ a1) (h2 : Rd (.of (.int .u8)) w0 (Ol (Rs.fld f0_).fp w0) v2_ a2) (E : quot_Mod.f k a1 a2 = some r) :
   Calls Tryz.prog 121 #[pt f0_.p,v1_,v2_] w0 fun e w'=>∃ (u0 : Value),e = .returned (.tuple #[u0,.bool r.2]) ∧ St (Rs.fld f0_).fp w0 w' [.fld f0_,.own (.int .u8) 5 u0 r.1]:=by
 have H:=St.start hf
 unfold quot_Mod.f at E
 refine calls_of_wc (N:=21) (args:=[pt f0_.p,v1_,v2_]) Tryz.func121 z z (by simp) ?_
 refine rg (v_ z (sg (.slice none 0 0) z) (v_ z (sg (.bool false) z) (nl (rg (v_ z (mv (pt f0_.p) z) (v_ z (mv v1_ z) (v_ z (mv v2_ z) ?_)))))))
 obtain ⟨x1,E2,E⟩:=bind_some E
 refine e_ z (y_callL e_en_172 z ((quot_Div.calls (H.get 0 z) (H.argX 0 z (H.rd h1)) (H.argX 0 z (H.rd h2)) E2).mono ?_))
 rintro _ w ⟨v3,v4,rfl,K⟩
 have H:=H.appX 0 z K
 refine ⟨_,z,(v_ z (r_move) (v_ z (r_extract z z) (v_ z (r_extract z z) (v_ z (r_extract z z) (v_ z (sg v3 z) (v_ z (sg v4 z) (v_ z (sg (.bool x1.2.2) z) (nl (rg (v_ z (mv v4 z) (v_ z (mv (.bool x1.2.2) z) (v_ z (sg v4 z) (v_ z (sg (.bool x1.2.2) z) (nl (wc_ret ?_)))))))))))))))⟩
 cases E
 exact ⟨.inl z,_,tk0 z ⟨resN z (rv_t (rv_t rv_nil)),_,z,H.sub2 0 2 z z z⟩⟩
def code_some.l0 : Nat → Int → Int → List (Int) → Int → Option (List Int)
 | 0,_,_,_,_=>none
 | k + 1,a1,a3,l37,x38=>bif decide ((l37.length : Int) = a1) then (some l37) else (grd (decide ((l37.length + ([x38]).length) * 1 ≤ 140737488355328)) ((field_Field_Mul.f x38 a3).bind fun x72=>code_some.l0 k a1 a3 (l37 ++ ([x38])) x72))
def code_some.f (k : Nat) (a1 : Int) (a2 : Int) (a3 : Int) : Option (List Int):=grd (decide ((0 : Int) ≤ 0 ∧ (0 : Int) ≤ a1 ∧ a1 ≤ 140737488355328)) (code_some.l0 k a1 a3 (List.replicate (0 : Int).toNat (0 : Int)) a2)
theorem code_some.calls {w0 : World} {k : Nat} {f0_ : FD} {a1 : Int} {a2 : Int} {a3 : Int} {r : List Int} (hf : (Rs.fld f0_).inv w0) (E : code_some.f k a1 a2 a3 = some r) :
   Calls Tryz.prog 139 #[pt f0_.p,.int .i64 a1,.int .u8 a2,.int .u8 a3] w0 fun e w'=>∃ (u0 : Value),e = .returned (u0) ∧ St (Rs.fld f0_).fp w0 w' [.fld f0_,.own (.int .u8) 5 u0 r]:=by
 have H:=St.start hf
 unfold code_some.f at E
 refine calls_of_wc (N:=27) (args:=[pt f0_.p,.int .i64 a1,.int .u8 a2,.int .u8 a3]) Tryz.func139 z z (by simp) ?_
 have H:=H.mk0
 refine rg (e_ z (y_boxS (cs:=#[.int .i64 a1]) H z (fun b1 w H=>(v_ z (sg (.slice none 0 0) z) (nl (rg (v_ z (r_load e_sc_3 z (blk_cell (H.get 2 z) z)) ?_)))))))
 obtain ⟨⟨g3,g4,g5⟩,E⟩:=grd_some E
 refine e_ z (y_make (e:=(.int .u8)) (z0:=0) e_sl_22 z H z z g3 g4 (by omega) (by omega) (fun v2 w H=>(e_ z (y_allocS e_zr_22 H (fun b6 w H=>?_)))))
 obtain ⟨p7,n8,c9,rfl⟩:=own_form (H.get 3 z)
 refine s_ (y_storeB e_sz_22 H 4 z z z z z (fun w H=>(nl (wc_seq (rg (v_ z (mv (pt f0_.p) z) (v_ z (mv (.int .u8 a2) z) (v_ z (mv (.int .u8 a3) z) (e_ z (y_in 8 [pt f0_.p,.int .u8 a2,.int .u8 a3] e_en_196 Tryz.func196 z z z z (rg (e_ z (y_boxS (cs:=#[pt f0_.p]) H z (fun b13 w H=>?_))))))))))))))
 have H : St (Rs.fld f0_).fp w0 _ [.fld f0_,.mks undef,.blk b1 #[.int .i64 a1] 3,.own (.int .u8) 5 (.slice p7 n8 c9) (List.replicate (0 : Int).toNat (0 : Int)),.blk b6 #[(.slice p7 n8 c9)] 22,.blk b13 #[pt f0_.p] 79]:=H
 refine e_ z (y_boxS (cs:=#[.int .u8 a2]) H z (fun b14 w H=>(e_ z (y_boxS (cs:=#[.int .u8 a3]) H z (fun b15 w H=>(v_ z (sg (.nilFunc) z) (nl (rg (v_ z (r_mkf [pt b14,pt b13,pt b15] z) (v_ z (sg (.func (.func 252) #[] #[pt b14,pt b13,pt b15]) z) (nl (wc_ret (⟨.inl z,.func (.func 252) #[] #[pt b14,pt b13,pt b15],tk0 z ⟨resM z (rv_t rv_nil) z,(nl (wc_block (wc_rf 14 [pt b14,pt b13,pt b15] z Tryz.func252 z z z z z H 1 z z (fun v19 b16 o17 w hO18 H=>(rg (v_ z (r_load e_sc_5 z (blk_cell (H.get 6 z) z)) (v_ z (sg (.int .u8 a2) z) (nl (wc_block ?_)))))))))⟩⟩)))))))))))))
 refine wc_loop (fun kk t w=>∃ (l37 : List (Int)) (x38 : Int) (v36 : Value) (t57 : Fr),kk ≤ k ∧ code_some.l0 kk a1 a3 l37 x38 = some r ∧ t = upds t57 [(0,.func (.yield b16) #[] #[]),(2,pt b13),(3,pt b15),(5,.int .u8 x38),(1000000,undef)] ∧ St (Rs.fld f0_).fp w0 w [.fld f0_,.mks v19,.blk b1 #[.int .i64 a1] 3,.own (.int .u8) 5 v36 l37,.blk b6 #[v36] 22,.blk b13 #[pt f0_.p] 79,.blk b14 #[.int .u8 a2] 5,.blk b15 #[.int .u8 a3] 5,.obj b16 (.loop o17)]) k ?_ ?_
 · exact ⟨_,_,_,_,Nat.le_refl _,E,upds_eq ⟨z,z,z,z,z,trivial⟩,H⟩
 rintro kk t w ⟨l37,x38,v36,t57,hk56,E,rfl,H⟩
 obtain ⟨k55,rfl⟩ | rfl : (∃ k',kk = k' + 1) ∨ kk = 0:=by cases kk; exact .inr rfl; exact .inl ⟨_,rfl⟩
 rotate_left
 · cases E
 rw [code_some.l0] at E
 refine wc_seq (rg (v_ z (mv (.func (.yield b16) #[] #[]) z) (v_ z (mv (.int .u8 x38) z) (e_ z (y_yld [.int .u8 x38] z z H 8 z hO18 z z (wc_region (v_ z (sg (.int .u8 x38) z) (wl_nil (yB H 8 z hO18 (fun w H=>(wc_block (wc_seq (rg (v_ z (r_load e_sc_22 z (blk_cell (H.get 4 z) z)) (v_ z (r_lenR e_ul_22 (own_rd (H.get 3 z)) z) (v_ z (r_load e_sc_3 z (blk_cell (H.get 2 z) z)) (v_ z (r_eql z z) (nl ?_))))))))))))))))))
 refine wc_cond z (fun c65=>?_) (fun c65=>?_)
 · have E:=iT c65 E
   refine wc_exit (x_thn (x_bkne z (yX H 8 z (fun w H=>(nl (wc_condF z (wc_exit (x_thn (x_thn (x_bk (⟨.inr z,.tuple #[],tk0 z ⟨resM z rv_nil z,(el_x H 8 z (fun w H=>((x_bk (n_thn (rg (v_ z (r_load e_sc_22 z (blk_cell (H.get 4 z) z)) (v_ z (sg v36 z) (nl (wc_ret ?_))))))))))⟩⟩)))))))))))
   cases E
   exact ⟨.inl z,_,tkA H 1 z z (fun w H=>⟨resN z (rv_t rv_nil),_,z,H.sub2 0 3 z z z⟩)⟩
 · have E:=iF c65 E
   refine wc_skip (n_thn (wc_region (v_ z (r_load e_sc_22 z (blk_cell (H.get 4 z) z)) (v_ z (mv (.int .u8 x38) z) (e_ z (y_bsL (e:=(.int .u8)) (l:=[x38]) e_sl_22 H z (by decide) ⟨z,z,trivial⟩ (by decide) (fun v66 w H=>?_)))))))
   obtain ⟨g68,E⟩:=grd_some E
   refine e_ z (y_app e_sl_22 H 3 z (own_rd (H.get 9 z)) z z (by omega) (by unfold maxLen; omega) (fun v67 w H=>?_))
   obtain ⟨p69,n70,c71,rfl⟩:=own_form (H.get 3 z)
   refine s_ (y_storeB e_sz_22 H 4 z z z z z (fun w H=>(wl_nil (n_bk (yN H 8 z hO18 (fun w H=>(nl (wc_condT z (wc_skip (n_thn (wc_seq (wc_block (wc_skip (n_bk (n_thn (wc_region (v_ z (r_load e_sc_79 z (blk_cell (H.get 5 z) z)) (v_ z (mv (.int .u8 x38) z) (v_ z (r_load e_sc_5 z (blk_cell (H.get 7 z) z)) ?_)))))))))))))))))))
   obtain ⟨x72,E73,E⟩:=bind_some E
   refine e_ z (y_callL e_en_195 z ((field_Field_Mul.calls (H.get 0 z) E73).mono ?_))
   rintro _ w ⟨rfl,K⟩
   have H:=H.appX 0 z K
   refine ⟨_,z,(v_ z (sg (.int .u8 x72) z) (wl_nil ?_))⟩
   exact ⟨k55,Nat.lt_succ_self _,_,_,_,_,Nat.le_of_succ_le hk56,E,upds_eq ⟨z,z,z,z,z,trivial⟩,H.sel [0,1,2,3,4,5,6,7,8] z z⟩
def code_Point.f (a1 : Int) : Option (Int):=(field_Field_Pow.f 2 a1).bind fun x1=>some x1
theorem code_Point.calls {w0 : World} {f0_ : FD} {a1 : Int} {r : Int} (hf : (Rs.fld f0_).inv w0) (E : code_Point.f a1 = some r) :
   Calls Tryz.prog 140 #[pt f0_.p,.int .i64 a1] w0 fun e w'=>e = .returned (.int .u8 r) ∧ St (Rs.fld f0_).fp w0 w' [.fld f0_]:=by
 have H:=St.start hf
 unfold code_Point.f at E
 refine calls_of_wc (N:=8) (args:=[pt f0_.p,.int .i64 a1]) Tryz.func140 z z (by simp) ?_
 refine rg (v_ z (sg (.int .u8 0) z) (nl (rg (v_ z (mv (pt f0_.p) z) (v_ z (mv (.int .i64 a1) z) ?_)))))
 obtain ⟨x1,E2,E⟩:=bind_some E
 refine e_ z (y_callL e_en_197 z ((field_Field_Pow.calls (H.get 0 z) E2).mono ?_))
 rintro _ w ⟨rfl,K⟩
 have H:=H.appX 0 z K
 refine ⟨_,z,(v_ z (sg (.int .u8 x1) z) (nl (wc_ret ?_)))⟩
 cases E
 exact ⟨.inl z,_,tk0 z ⟨resN z (rv_t rv_nil),z,H.sub1 0 z⟩⟩
def code_Roots.f (k : Nat) (a1 : Int × Int × Int) : Option (List Int):=(code_Right.f (a1.1,a1.2.1,a1.2.2)).bind fun x5=>bif !decide (x5 = 0) then (some ([] : List (Int))) else ((code_Space.f (a1.1,a1.2.1,a1.2.2)).bind fun x8=>(code_Point.f a1.2.2).bind fun x10=>(code_some.f k x8 x10 2).bind fun x12=>some x12)
theorem code_Roots.calls {w0 : World} {k : Nat} {f0_ : FD} {a1 : Int × Int × Int} {r : List Int} (hf : (Rs.fld f0_).inv w0) (E : code_Roots.f k a1 = some r) :
   Calls Tryz.prog 79 #[pt f0_.p,.agg #[.int .i64 a1.1,.int .i64 a1.2.1,.int .i64 a1.2.2]] w0 fun e w'=>∃ (u0 : Value),e = .returned (u0) ∧ St (Rs.fld f0_).fp w0 w' [.fld f0_,.own (.int .u8) 5 u0 r]:=by
 have H:=St.start hf
 unfold code_Roots.f at E
 refine calls_of_wc (N:=20) (args:=[pt f0_.p,.agg #[.int .i64 a1.1,.int .i64 a1.2.1,.int .i64 a1.2.2]]) Tryz.func79 z z (by simp) ?_
 refine rg (e_ z (y_boxS (cs:=#[.int .i64 a1.1,.int .i64 a1.2.1,.int .i64 a1.2.2]) H z (fun b1 w H=>(v_ z (sg (.slice none 0 0) z) (nl (wc_seq (rg (v_ z (mv (pt f0_.p) z) (v_ z (r_peql0 Tryz.underlying79 z z) (v_ z (mv (.bool false) z) (on_ z z z (r_loadB (l:=[.int .i64 a1.1,.int .i64 a1.2.1,.int .i64 a1.2.2]) e_ag_24 (H.get 1 z) z z z) ?_)))))))))))
 obtain ⟨x5,E6,E⟩:=bind_some E
 refine wl_on z z z (y_callL e_en_38 z ((code_Right.calls E6).mono ?_))
 rintro _ w ⟨rfl,K⟩
 have H:=H.app K
 refine ⟨_,z,(on_ z z z (r_neq z z) (v_ z (pF (.bool (!decide (x5 = 0))) z z z) (nl ?_)))⟩
 refine wc_cond z (fun c7=>?_) (fun c7=>?_)
 · have E:=iT c7 E
   refine rg (v_ z (sg (.slice none 0 0) z) (nl (wc_ret ?_)))
   have H:=H.nilOwn (.int .u8) 5
   cases E
   exact (r_thn ⟨.inl z,_,tk0 z ⟨resN z (rv_t rv_nil),_,z,H.sub2 0 2 z z z⟩⟩)
 · have E:=iF c7 E
   refine wc_skip (n_thn (wc_seq (wc_drawnS (ds:=[]) e_mo H z z ?_)))
   have H:=H.drew
   refine wt 0 (tf 1 9) z z z (by kernel_rfl) H (fun w H=>(mv (pt f0_.p) z)) (wt 1 (tf 2 9) z z z (by kernel_rfl) H (fun w H=>(r_loadB (l:=[.int .i64 a1.1,.int .i64 a1.2.1,.int .i64 a1.2.2]) e_ag_24 (H.get 1 z) z z z)) (wt 3 #[true,true,false,true,false,false,false,false,false] z z z (by kernel_rfl) H (fun w H=>(mv (pt f0_.p) z)) (wt 4 #[true,true,false,true,true,false,false,false,false] z z z (by kernel_rfl) H (fun w H=>(r_faddr e_fa_24_2 z)) (wt 5 #[true,true,false,true,true,true,false,false,false] z z z (by kernel_rfl) H (fun w H=>(r_load e_sc_3 z (blk_cell (H.get 1 z) z))) ?_))))
   obtain ⟨x8,E9,E⟩:=bind_some E
   refine wa_one (i:=2) (l':=(tf 6 9)) z z z (by kernel_rfl) (y_callL e_en_113 z ((code_Space.calls E9).mono ?_))
   rintro _ w ⟨rfl,K⟩
   have H:=H.app K
   refine ⟨_,z,⟨fun _=>H.sel [0,1] z z,?_⟩⟩
   obtain ⟨x10,E11,E⟩:=bind_some E
   refine wa_one (i:=6) (l':=(tf 7 9)) z z z (by kernel_rfl) (y_callL e_en_140 z ((code_Point.calls (H.get 0 z) E11).mono ?_))
   rintro _ w ⟨rfl,K⟩
   have H:=H.appX 0 z K
   refine ⟨_,z,⟨fun _=>H.sel [0,1] z z,?_⟩⟩
   obtain ⟨x12,E13,E⟩:=bind_some E
   refine wa_one (i:=7) (l':=(tf 8 9)) z z z (by kernel_rfl) (y_callL e_en_139 z ((code_some.calls (H.get 0 z) E13).mono ?_))
   rintro _ w ⟨v14,rfl,K⟩
   have H:=H.appX 0 z K
   refine ⟨_,z,⟨fun _=>H.sel [0,1] z z,?_⟩⟩
   have H : St (Rs.fld f0_).fp w0 _ [.fld f0_,.blk b1 #[.int .i64 a1.1,.int .i64 a1.2.1,.int .i64 a1.2.2] 24,.own (.int .u8) 5 v14 x12]:=H
   refine wa_oneV (i:=8) (l':=(tf 9 9)) z z z (by kernel_rfl) ((H.sel [0,1] z z)) (sg v14 z) (wa_done (by kernel_rfl) (n_thn (wc_ret ?_)))
   cases E
   exact ⟨.inl z,_,tk0 z ⟨resN z (rv_t rv_nil),_,z,H.sub2 0 2 z z z⟩⟩
mutual
def poly_Mul.l0 : Nat → List Int → List Int → List (Int) → Int → Option (List Int)
 | 0,_,_,_,_=>none
 | k + 1,a1,a2,l70,x71=>bif decide (0 ≤ x71) then (grd (decide ((0 : Int) ≤ x71 ∧ x71 < (a1.length : Int))) (bif !decide (at_ 0 a1 x71 = 0) then ((field_Field_Each.f k (at_ 0 a1 x71) a2).bind fun x117=>poly_Mul.l1 k a1 a2 x71 x117 l70 0) else (poly_Mul.l0 k a1 a2 l70 (i64.wrap (x71 - 1))))) else ((poly_Norm.f k l70).bind fun x149=>some x149)
def poly_Mul.l1 : Nat → List Int → List Int → Int → List Int → List (Int) → Int → Option (List Int)
 | 0,_,_,_,_,_,_=>none
 | k + 1,a1,a2,x71,x117,l128,x129=>bif decide (x129 < (x117.length : Int)) then (grd (decide ((0 : Int) ≤ x129 ∧ x129 < (x117.length : Int))) (grd (decide ((0 : Int) ≤ i64.wrap (x71 + x129) ∧ i64.wrap (x71 + x129) < (l128.length : Int))) (grd (decide ((0 : Int) ≤ i64.wrap (x71 + x129) ∧ i64.wrap (x71 + x129) < (l128.length : Int))) (poly_Mul.l1 k a1 a2 x71 x117 (l128.set (i64.wrap (x71 + x129)).toNat (bits .xor .u8 (at_ 0 l128 (i64.wrap (x71 + x129))) (at_ 0 x117 x129))) (i64.wrap (x129 + 1)))))) else (poly_Mul.l0 k a1 a2 l128 (i64.wrap (x71 - 1)))
end
def poly_Mul.f (k : Nat) (a1 : List Int) (a2 : List Int) : Option (List Int):=grd (decide ((0 : Int) ≤ i64.wrap ((a1.length : Int) + (a2.length : Int)) ∧ i64.wrap ((a1.length : Int) + (a2.length : Int)) ≤ i64.wrap ((a1.length : Int) + (a2.length : Int)) ∧ i64.wrap ((a1.length : Int) + (a2.length : Int)) ≤ 140737488355328)) (poly_Mul.l0 k a1 a2 (List.replicate (i64.wrap ((a1.length : Int) + (a2.length : Int))).toNat (0 : Int)) (i64.wrap ((a1.length : Int) - 1)))
theorem poly_Mul.calls {w0 : World} {k : Nat} {f0_ : FD} {a1 : List Int} {a2 : List Int} {v1_ : Value} {v2_ : Value} {r : List Int} (hf : (Rs.fld f0_).inv w0) (h1 : Rd (.of (.int .u8)) w0 (Ol (Rs.fld f0_).fp w0) v1_ a1) (h2 : Rd (.of (.int .u8)) w0 (Ol (Rs.fld f0_).fp w0) v2_ a2) (E : poly_Mul.f k a1 a2 = some r) :
   Calls Tryz.prog 180 #[pt f0_.p,v1_,v2_] w0 fun e w'=>∃ (u0 : Value),e = .returned (u0) ∧ St (Rs.fld f0_).fp w0 w' [.fld f0_,.own (.int .u8) 5 u0 r]:=by
 have H:=St.start hf
 unfold poly_Mul.f at E
 refine calls_of_wc (N:=44) (args:=[pt f0_.p,v1_,v2_]) Tryz.func180 z z (by simp) ?_
 have H:=H.mk0
 refine rg (e_ z (y_boxS (cs:=#[pt f0_.p]) H z (fun b1 w H=>?_)))
 obtain ⟨p2,n3,c4,rfl⟩:=rd_form h2
 refine e_ z (y_boxS (cs:=#[(.slice p2 n3 c4)]) H z (fun b5 w H=>(v_ z (sg (.slice none 0 0) z) (nl (rg (v_ z (mv v1_ z) (v_ z (r_lenR e_ul_22 (H.rd h1) z) (v_ z (r_load e_sc_22 z (blk_cell (H.get 3 z) z)) (v_ z (r_lenR e_ul_22 (H.rd h2) z) (v_ z (r_add z z) ?_))))))))))
 obtain ⟨⟨g7,g8,g9⟩,E⟩:=grd_some E
 refine e_ z (y_make (e:=(.int .u8)) (z0:=0) e_sl_22 z H z z g7 g8 (by omega) (by omega) (fun v6 w H=>(e_ z (y_allocS e_zr_22 H (fun b10 w H=>?_)))))
 obtain ⟨p11,n12,c13,rfl⟩:=own_form (H.get 4 z)
 refine s_ (y_storeB e_sz_22 H 5 z z z z z (fun w H=>(nl (wc_seq (rg ?_)))))
 have H : St (Rs.fld f0_).fp w0 _ [.fld f0_,.mks undef,.blk b1 #[pt f0_.p] 79,.blk b5 #[(.slice p2 n3 c4)] 22,.own (.int .u8) 5 (.slice p11 n12 c13) (List.replicate (i64.wrap ((a1.length : Int) + (a2.length : Int))).toNat (0 : Int)),.blk b10 #[(.slice p11 n12 c13)] 22]:=H
 refine v_ z (mv v1_ z) (e_ z (y_in 4 [v1_] e_en_232 Tryz.func232 z z z z (rg ?_)))
 obtain ⟨p18,n19,c20,rfl⟩:=rd_form h1
 refine e_ z (y_boxS (cs:=#[(.slice p18 n19 c20)]) H z (fun b21 w H=>(v_ z (sg (.nilFunc) z) (nl (rg (v_ z (r_mkf [pt b21] z) (v_ z (sg (.func (.func 278) #[] #[pt b21]) z) (nl (wc_ret (⟨.inl z,.func (.func 278) #[] #[pt b21],tk0 z ⟨resM z (rv_t rv_nil) z,(nl (wc_block (wc_rf 18 [pt b21] z Tryz.func278 z z z z z H 1 z z (fun v25 b22 o23 w hO24 H=>?_))))⟩⟩))))))))))
 have H:=H.mk0
 refine rg (e_ z (y_boxS (cs:=#[.func (.yield b22) #[] #[]]) H z (fun b26 w H=>(nl (rg (v_ z (r_load e_sc_22 z (blk_cell (H.get 6 z) z)) (e_ z (y_in 4 [(.slice p18 n19 c20)] e_en_194 Tryz.func194 z z z z (rg (e_ z (y_boxS (cs:=#[(.slice p18 n19 c20)]) H z (fun b28 w H=>(v_ z (sg (.nilFunc) z) (nl (rg (v_ z (r_mkf [pt b28] z) (v_ z (sg (.func (.func 251) #[] #[pt b28]) z) (nl (wc_ret (⟨.inl z,.func (.func 251) #[] #[pt b28],tk0 z ⟨resM z (rv_t rv_nil) z,(nl (wc_block (wc_rf 19 [pt b28] z Tryz.func251 z z z z z H 8 z z (fun v32 b29 o30 w hO31 H=>(rg ?_)))))⟩⟩))))))))))))))))))))
 have H : St (Rs.fld f0_).fp w0 _ [.fld f0_,.mks v25,.blk b1 #[pt f0_.p] 79,.blk b5 #[(.slice p2 n3 c4)] 22,.own (.int .u8) 5 (.slice p11 n12 c13) (List.replicate (i64.wrap ((a1.length : Int) + (a2.length : Int))).toNat (0 : Int)),.blk b10 #[(.slice p11 n12 c13)] 22,.blk b21 #[(.slice p18 n19 c20)] 22,.obj b22 (.loop o23),.mks v32,.blk b26 #[.func (.yield b22) #[] #[]] 337,.blk b28 #[(.slice p18 n19 c20)] 22,.obj b29 (.loop o30)]:=H
 refine v_ z (r_load e_sc_22 z (blk_cell (H.get 10 z) z)) (v_ z (r_lenR e_ul_22 (H.rd h1) z) (v_ z (r_sub z z) (v_ z (sg (.int .i64 (i64.wrap ((a1.length : Int) - 1))) z) (nl (wc_block ?_)))))
 refine wc_loop (fun kk t w=>∃ (l70 : List (Int)) (x71 : Int) (t111 : Fr),kk ≤ k ∧ poly_Mul.l0 kk a1 a2 l70 x71 = some r ∧ t = upds t111 [(0,.func (.yield b29) #[] #[]),(1,pt b28),(3,.int .i64 x71),(1000000,undef)] ∧ St (Rs.fld f0_).fp w0 w [.fld f0_,.mks v25,.blk b1 #[pt f0_.p] 79,.blk b5 #[(.slice p2 n3 c4)] 22,.own (.int .u8) 5 (.slice p11 n12 c13) l70,.blk b10 #[(.slice p11 n12 c13)] 22,.blk b21 #[(.slice p18 n19 c20)] 22,.obj b22 (.loop o23),.mks v32,.blk b26 #[.func (.yield b22) #[] #[]] 337,.blk b28 #[(.slice p18 n19 c20)] 22,.obj b29 (.loop o30)]) k ?_ ?_
 · exact ⟨_,_,_,Nat.le_refl _,E,upds_eq ⟨z,z,z,z,trivial⟩,H⟩
 rintro kk t w ⟨l70,x71,t111,hk110,E,rfl,H⟩
 obtain ⟨k109,rfl⟩ | rfl : (∃ k',kk = k' + 1) ∨ kk = 0:=by cases kk; exact .inr rfl; exact .inl ⟨_,rfl⟩
 rotate_left
 · cases E
 rw [poly_Mul.l0] at E
 refine wc_seq (rg (v_ z (mv (.int .i64 x71) z) (v_ z (r_geq z z) (nl ?_))))
 refine wc_cond z (fun c113=>?_) (fun c113=>?_)
 · have E:=iT c113 E
   refine wc_skip (n_thn (wc_seq (wc_block (rg (v_ z (mv (.func (.yield b29) #[] #[]) z) (v_ z (mv (.int .i64 x71) z) (v_ z (r_load e_sc_22 z (blk_cell (H.get 10 z) z)) (v_ z (mv (.int .i64 x71) z) ?_))))))))
   obtain ⟨⟨g114,g115⟩,E⟩:=grd_some E
   refine v_ z (r_idx e_sl_22 (H.rd h1) z z g114 g115) (v_ z (r_ldI e_sc_5 (H.rd h1) g114 g115 z) (e_ z (y_yld [.int .i64 x71,.int .u8 (at_ 0 a1 x71)] z z H 11 z hO31 z z (rg (v_ z (sg (.int .i64 x71) z) (nl (wc_region (v_ z (sg (.int .u8 (at_ 0 a1 x71)) z) (wl_nil (yB H 11 z hO31 (fun w H=>(wc_block (rg (v_ z (mv (.int .u8 (at_ 0 a1 x71)) z) (v_ z (r_neq z z) (v_ z (mv (.bool (!decide (at_ 0 a1 x71 = 0))) z) ?_))))))))))))))))
   rcases Bool.eq_false_or_eq_true (!decide (at_ 0 a1 x71 = 0)) with c116 | c116
   · have E:=iT c116 E
     refine on_ c116 z z (r_load e_sc_337 z (blk_cell (H.get 9 z) z)) (on_ c116 z z (mv (.int .i64 x71) z) (on_ c116 z z (mv (.int .u8 (at_ 0 a1 x71)) z) (wl_on z c116 z (y_yld [.int .i64 x71,.int .u8 (at_ 0 a1 x71)] z z H 7 z hO24 z z (rg (v_ z (sg (.int .i64 x71) z) (nl (wc_region (v_ z (sg (.int .u8 (at_ 0 a1 x71)) z) (wl_nil (yB H 7 z hO24 (fun w H=>(wc_block (rg (v_ z (r_load e_sc_79 z (blk_cell (H.get 2 z) z)) (v_ z (mv (.int .u8 (at_ 0 a1 x71)) z) (v_ z (r_load e_sc_22 z (blk_cell (H.get 3 z) z)) ?_)))))))))))))))))
     obtain ⟨x117,E118,E⟩:=bind_some E
     refine e_ z (y_callL e_en_223 z ((field_Field_Each.calls (H.get 0 z) (H.argX 0 z (H.rd h2)) E118).mono ?_))
     rintro _ w ⟨v119,rfl,K⟩
     have H:=H.appX 0 z K
     refine ⟨_,z,(v_ z (r_lenR e_ul_22 (own_rd (H.get 12 z)) z) (v_ z (mv (.int .i64 0) z) (nl (wc_block ?_))))⟩
     refine wc_loop (fun kk t w=>∃ (l128 : List (Int)) (x129 : Int) (t140 : Fr),kk ≤ k109 ∧ poly_Mul.l1 kk a1 a2 x71 x117 l128 x129 = some r ∧ t = upds t140 [(7,pt b10),(8,.int .i64 x71),(25,v119),(26,.int .i64 (x117.length : Int)),(27,.int .i64 x129),(1000000,undef)] ∧ St (Rs.fld f0_).fp w0 w [.fld f0_,.mks v25,.blk b1 #[pt f0_.p] 79,.blk b5 #[(.slice p2 n3 c4)] 22,.own (.int .u8) 5 (.slice p11 n12 c13) l128,.blk b10 #[(.slice p11 n12 c13)] 22,.blk b21 #[(.slice p18 n19 c20)] 22,.obj b22 (.loop (lpB o23)),.mks v32,.blk b26 #[.func (.yield b22) #[] #[]] 337,.blk b28 #[(.slice p18 n19 c20)] 22,.obj b29 (.loop (lpB o30)),.own (.int .u8) 5 v119 x117]) k109 ?_ ?_
     · exact ⟨_,_,_,Nat.le_refl _,E,upds_eq ⟨z,z,z,z,z,z,trivial⟩,H⟩
     rintro kk t w ⟨l128,x129,t140,hk139,E,rfl,H⟩
     obtain ⟨k138,rfl⟩ | rfl : (∃ k',kk = k' + 1) ∨ kk = 0:=by cases kk; exact .inr rfl; exact .inl ⟨_,rfl⟩
     rotate_left
     · cases E
     rw [poly_Mul.l1] at E
     refine rg (v_ z (r_lss z z) (nl (wc_seq ?_)))
     refine wc_cond z (fun c142=>?_) (fun c142=>?_)
     · have E:=iT c142 E
       refine wc_skip (n_thn (wc_seq (wc_block (rg (v_ z (mv (.int .i64 x129) z) ?_)))))
       obtain ⟨⟨g143,g144⟩,E⟩:=grd_some E
       refine v_ z (r_idx e_sl_22 (own_rd (H.get 12 z)) z z g143 g144) (v_ z (r_ldI e_sc_5 (own_rd (H.get 12 z)) g143 g144 z) (v_ z (sg (.int .i64 x129) z) (v_ z (sg (.int .u8 (at_ 0 x117 x129)) z) (nl (wc_region (v_ z (r_load e_sc_22 z (blk_cell (H.get 5 z) z)) (v_ z (mv (.int .i64 x71) z) (v_ z (mv (.int .i64 x129) z) (v_ z (r_add z z) ?_)))))))))
       obtain ⟨⟨g145,g146⟩,E⟩:=grd_some E
       refine v_ z (r_idx e_sl_22 (own_rd (H.get 4 z)) z z g145 g146) (v_ z (r_ldI e_sc_5 (own_rd (H.get 4 z)) g145 g146 z) (v_ z (mv (.int .u8 (at_ 0 x117 x129)) z) (v_ z (r_xor z z) ?_)))
       obtain ⟨⟨g147,g148⟩,E⟩:=grd_some E
       refine v_ z (r_idx e_sl_22 (own_rd (H.get 4 z)) z z g147 g148) (s_ (y_storeI e_sz_5 H 4 z g147 g148 z z (fun w H=>(wl_nil (n_bk (n_thn (wc_region (v_ z (r_add z z) (v_ z (mv (.int .i64 (i64.wrap (x129 + 1))) z) (wl_nil ?_))))))))))
       exact ⟨k138,Nat.lt_succ_self _,_,_,_,Nat.le_of_succ_le hk139,E,upds_eq ⟨z,z,z,z,z,z,trivial⟩,H⟩
     · have E:=iF c142 E
       refine wc_exit (x_thn (x_thn (x_bk (n_bk (yN H 7 z hO24 (fun w H=>(on_ c116 z z (rv_eq (v':=.bool false) (r_not z) z) (v_ z (pT (.bool false) z z c116) (nl (wc_condF z (wc_skip (n_bk (yN H 11 z hO31 (fun w H=>(v_ z (rv_eq (v':=.bool false) (r_not z) z) (nl (wc_condF z (wc_skip (n_bk (n_thn (wc_region (v_ z (mv (.int .i64 x71) z) (v_ z (r_sub z z) (v_ z (sg (.int .i64 (i64.wrap (x71 - 1))) z) (wl_nil ?_)))))))))))))))))))))))))
       exact ⟨k138,by omega,_,_,_,by omega,E,upds_eq ⟨z,z,z,z,trivial⟩,H.sel [0,1,2,3,4,5,6,7,8,9,10,11] z z⟩
   · have E:=iF c116 E
     refine off_ c116 z z z (off_ c116 z z z (off_ c116 z z z (off_ c116 z z z (off_ c116 z z z (v_ z (pF (.bool false) z z c116) (nl (wc_condF z (wc_skip (n_bk (yN H 11 z hO31 (fun w H=>(v_ z (rv_eq (v':=.bool false) (r_not z) z) (nl (wc_condF z (wc_skip (n_bk (n_thn (wc_region (v_ z (mv (.int .i64 x71) z) (v_ z (r_sub z z) (v_ z (sg (.int .i64 (i64.wrap (x71 - 1))) z) (wl_nil ?_))))))))))))))))))))))
     exact ⟨k109,Nat.lt_succ_self _,_,_,_,Nat.le_of_succ_le hk110,E,upds_eq ⟨z,z,z,z,trivial⟩,H⟩
 · have E:=iF c113 E
   refine wc_exit (x_thn (x_thn (x_bk (⟨.inr z,.tuple #[],tk0 z ⟨resM z rv_nil z,(el_n H 11 z hO31 (fun w H=>(n_bk (⟨.inr z,.tuple #[],tkA H 8 z z (fun w H=>⟨resM z rv_nil z,(el_n H 7 z hO24 (fun w H=>(n_bk (n_thn (rg (v_ z (r_load e_sc_22 z (blk_cell (H.get 5 z) z)) ?_))))))⟩)⟩))))⟩⟩))))
   obtain ⟨x149,E150,E⟩:=bind_some E
   refine e_ z (y_callL e_en_222 z ((poly_Norm.calls (H.own 4 z (own_rd (H.get 4 z))) E150).mono ?_))
   rintro _ w ⟨v151,rfl,K⟩
   have H:=H.app K
   refine ⟨_,z,(v_ z (sg v151 z) (nl (wc_ret ?_)))⟩
   cases E
   exact ⟨.inl z,_,tkA H 1 z z (fun w H=>⟨resN z (rv_t rv_nil),_,z,H.sub2 0 12 z z z⟩)⟩
def value_From.l0 : Nat → List Int → List (Int) → Int → Option (List Int)
 | 0,_,_,_=>none
 | k + 1,a1,l11,x12=>bif decide (x12 < (a1.length : Int)) then (grd (decide ((0 : Int) ≤ x12 ∧ x12 < (a1.length : Int))) ((poly_Mul.f k l11 ([at_ 0 a1 x12,1])).bind fun x29=>value_From.l0 k a1 x29 (i64.wrap (x12 + 1)))) else (some l11)
def value_From.f (k : Nat) (a1 : List Int) : Option (List Int):=value_From.l0 k a1 ([1]) 0
theorem value_From.calls {w0 : World} {k : Nat} {f0_ : FD} {a1 : List Int} {v1_ : Value} {r : List Int} (hf : (Rs.fld f0_).inv w0) (h1 : Rd (.of (.int .u8)) w0 (Ol (Rs.fld f0_).fp w0) v1_ a1) (E : value_From.f k a1 = some r) :
   Calls Tryz.prog 173 #[pt f0_.p,v1_] w0 fun e w'=>∃ (u0 : Value),e = .returned (u0) ∧ St (Rs.fld f0_).fp w0 w' [.fld f0_,.own (.int .u8) 5 u0 r]:=by
 have H:=St.start hf
 unfold value_From.f at E
 refine calls_of_wc (N:=24) (args:=[pt f0_.p,v1_]) Tryz.func173 z z (by simp) ?_
 refine rg (v_ z (sg (.slice none 0 0) z) (nl (wc_seq (rg (v_ z (mv (pt f0_.p) z) (v_ z (r_peql0 Tryz.underlying79 z z) (nl (wc_condF z (wc_skip (n_thn (rg (e_ z (y_bsL (e:=(.int .u8)) (l:=[1]) e_sl_22 H z (by decide) ⟨z,z,trivial⟩ (by decide) (fun v1 w H=>(v_ z (sg v1 z) (nl (wc_seq (rg (v_ z (mv v1_ z) (v_ z (r_lenR e_ul_22 (H.rd h1) z) (v_ z (mv (.int .i64 0) z) (nl (wc_block ?_)))))))))))))))))))))))
 refine wc_loop (fun kk t w=>∃ (l11 : List (Int)) (x12 : Int) (v10 : Value) (t23 : Fr),kk ≤ k ∧ value_From.l0 kk a1 l11 x12 = some r ∧ t = upds t23 [(0,pt f0_.p),(4,.slice none 0 0),(5,v10),(11,v1_),(12,.int .i64 (a1.length : Int)),(13,.int .i64 x12),(1000000,undef)] ∧ St (Rs.fld f0_).fp w0 w [.fld f0_,.own (.int .u8) 5 v10 l11]) k ?_ ?_
 · exact ⟨_,_,_,_,Nat.le_refl _,E,upds_eq ⟨z,z,z,z,z,z,z,trivial⟩,H⟩
 rintro kk t w ⟨l11,x12,v10,t23,hk22,E,rfl,H⟩
 obtain ⟨k21,rfl⟩ | rfl : (∃ k',kk = k' + 1) ∨ kk = 0:=by cases kk; exact .inr rfl; exact .inl ⟨_,rfl⟩
 rotate_left
 · cases E
 rw [value_From.l0] at E
 refine rg (v_ z (r_lss z z) (nl (wc_seq ?_)))
 refine wc_cond z (fun c25=>?_) (fun c25=>?_)
 · have E:=iT c25 E
   refine wc_skip (n_thn (wc_seq (wc_block (rg ?_))))
   obtain ⟨⟨g26,g27⟩,E⟩:=grd_some E
   refine v_ z (r_idx e_sl_22 (H.rd h1) z z g26 g27) (v_ z (r_ldI e_sc_5 (H.rd h1) g26 g27 z) (v_ z (sg (.int .u8 (at_ 0 a1 x12)) z) (nl (wc_region (v_ z (mv (pt f0_.p) z) (v_ z (mv v10 z) (v_ z (mv (.int .u8 (at_ 0 a1 x12)) z) (e_ z (y_bsL (e:=(.int .u8)) (l:=[at_ 0 a1 x12,1]) e_sl_22 H z (by decide) ⟨z,z,z,z,trivial⟩ (by decide) (fun v28 w H=>?_))))))))))
   obtain ⟨x29,E30,E⟩:=bind_some E
   refine e_ z (y_callL e_en_180 z ((poly_Mul.calls (H.get 0 z) (H.ownX 1 0 z z z (own_rd (H.get 1 z))) (H.ownX 2 0 z z z (own_rd (H.get 2 z))) E30).mono ?_))
   rintro _ w ⟨v31,rfl,K⟩
   have H:=H.appX 0 z K
   refine ⟨_,z,(v_ z (sg v31 z) (wl_nil (n_bk (n_thn (wc_region (v_ z (r_add z z) (v_ z (mv (.int .i64 (i64.wrap (x12 + 1))) z) (wl_nil ?_))))))))⟩
   exact ⟨k21,Nat.lt_succ_self _,_,_,_,_,Nat.le_of_succ_le hk22,E,upds_eq ⟨z,z,z,z,z,z,z,trivial⟩,H.sel [0,3] z z⟩
 · have E:=iF c25 E
   refine wc_exit (x_thn (x_thn (x_bk (n_thn (rg (v_ z (mv v10 z) (v_ z (sg v10 z) (nl (wc_ret ?_)))))))))
   cases E
   exact ⟨.inl z,_,tk0 z ⟨resN z (rv_t rv_nil),_,z,H.sub2 0 1 z z z⟩⟩
def code_Generator.f (k : Nat) (a1 : Int × Int × Int) : Option (List Int):=(code_Right.f (a1.1,a1.2.1,a1.2.2)).bind fun x5=>bif !decide (x5 = 0) then (some ([] : List (Int))) else ((code_Roots.f k (a1.1,a1.2.1,a1.2.2)).bind fun x8=>(value_From.f k x8).bind fun x11=>some x11)
theorem code_Generator.calls {w0 : World} {k : Nat} {f0_ : FD} {a1 : Int × Int × Int} {r : List Int} (hf : (Rs.fld f0_).inv w0) (E : code_Generator.f k a1 = some r) :
   Calls Tryz.prog 122 #[pt f0_.p,.agg #[.int .i64 a1.1,.int .i64 a1.2.1,.int .i64 a1.2.2]] w0 fun e w'=>∃ (u0 : Value),e = .returned (u0) ∧ St (Rs.fld f0_).fp w0 w' [.fld f0_,.own (.int .u8) 5 u0 r]:=by
 have H:=St.start hf
 unfold code_Generator.f at E
 refine calls_of_wc (N:=17) (args:=[pt f0_.p,.agg #[.int .i64 a1.1,.int .i64 a1.2.1,.int .i64 a1.2.2]]) Tryz.func122 z z (by simp) ?_
 refine rg (e_ z (y_boxS (cs:=#[.int .i64 a1.1,.int .i64 a1.2.1,.int .i64 a1.2.2]) H z (fun b1 w H=>(v_ z (sg (.slice none 0 0) z) (nl (wc_seq (rg (v_ z (mv (pt f0_.p) z) (v_ z (r_peql0 Tryz.underlying79 z z) (v_ z (mv (.bool false) z) (on_ z z z (r_loadB (l:=[.int .i64 a1.1,.int .i64 a1.2.1,.int .i64 a1.2.2]) e_ag_24 (H.get 1 z) z z z) ?_)))))))))))
 obtain ⟨x5,E6,E⟩:=bind_some E
 refine wl_on z z z (y_callL e_en_38 z ((code_Right.calls E6).mono ?_))
 rintro _ w ⟨rfl,K⟩
 have H:=H.app K
 refine ⟨_,z,(on_ z z z (r_neq z z) (v_ z (pF (.bool (!decide (x5 = 0))) z z z) (nl ?_)))⟩
 refine wc_cond z (fun c7=>?_) (fun c7=>?_)
 · have E:=iT c7 E
   refine rg (v_ z (sg (.slice none 0 0) z) (nl (wc_ret ?_)))
   have H:=H.nilOwn (.int .u8) 5
   cases E
   exact (r_thn ⟨.inl z,_,tk0 z ⟨resN z (rv_t rv_nil),_,z,H.sub2 0 2 z z z⟩⟩)
 · have E:=iF c7 E
   refine wc_skip (n_thn (rg (v_ z (mv (pt f0_.p) z) (v_ z (mv (pt f0_.p) z) (v_ z (r_loadB (l:=[.int .i64 a1.1,.int .i64 a1.2.1,.int .i64 a1.2.2]) e_ag_24 (H.get 1 z) z z z) ?_)))))
   obtain ⟨x8,E9,E⟩:=bind_some E
   refine e_ z (y_callL e_en_79 z ((code_Roots.calls (H.get 0 z) E9).mono ?_))
   rintro _ w ⟨v10,rfl,K⟩
   have H:=H.appX 0 z K
   refine ⟨_,z,?_⟩
   obtain ⟨x11,E12,E⟩:=bind_some E
   refine e_ z (y_callL e_en_173 z ((value_From.calls (H.get 0 z) (H.ownX 2 0 z z z (own_rd (H.get 2 z))) E12).mono ?_))
   rintro _ w ⟨v13,rfl,K⟩
   have H:=H.appX 0 z K
   refine ⟨_,z,(v_ z (sg v13 z) (nl (wc_ret ?_)))⟩
   cases E
   exact ⟨.inl z,_,tk0 z ⟨resN z (rv_t rv_nil),_,z,H.sub2 0 3 z z z⟩⟩
def encode_Encode.j0 (k : Nat) (a1 : Int × Int × Int) (a2 : List Int) (x17 : Int) : Option (List Int × Int):=bif !decide (x17 = 0) then (some (([] : List (Int)),x17)) else ((code_Space.f (a1.1,a1.2.1,a1.2.2)).bind fun x30=>grd (decide ((0 : Int) ≤ x30 ∧ x30 ≤ x30 ∧ x30 ≤ 140737488355328)) (grd (decide (((List.replicate x30.toNat (0 : Int)).length + a2.length) * 1 ≤ 140737488355328)) ((code_Generator.f k (a1.1,a1.2.1,a1.2.2)).bind fun x44=>(quot_Mod.f k ((List.replicate x30.toNat (0 : Int)) ++ a2) x44).bind fun x47=>some (cpy 0 ((List.replicate x30.toNat (0 : Int)) ++ a2).length x47.1 ((List.replicate x30.toNat (0 : Int)) ++ a2),0))))
def encode_Encode.f (k : Nat) (a1 : Int × Int × Int) (a2 : List Int) : Option (List Int × Int):=(code_Right.f (a1.1,a1.2.1,a1.2.2)).bind fun x23=>bif !(decide (x23 = 0)) then (encode_Encode.j0 k a1 a2 10) else (bif !(decide ((a2.length : Int) = a1.2.1)) then (encode_Encode.j0 k a1 a2 12) else (encode_Encode.j0 k a1 a2 0))
theorem encode_Encode.calls {w0 : World} {k : Nat} {f0_ : FD} {a1 : Int × Int × Int} {a2 : List Int} {v2_ : Value} {r : List Int × Int} (hf : (Rs.fld f0_).inv w0) (h2 : Rd (.of (.int .u8)) w0 (Ol (Rs.fld f0_).fp w0) v2_ a2) (E : encode_Encode.f k a1 a2 = some r) :
   Calls Tryz.prog 70 #[pt f0_.p,.agg #[.int .i64 a1.1,.int .i64 a1.2.1,.int .i64 a1.2.2],v2_] w0 fun e w'=>∃ (u0 : Value),e = .returned (.tuple #[u0,.int .u16 r.2]) ∧ St (Rs.fld f0_).fp w0 w' [.fld f0_,.own (.int .u8) 5 u0 r.1]:=by
 have H:=St.start hf
 unfold encode_Encode.f at E
 refine calls_of_wc (N:=41) (args:=[pt f0_.p,.agg #[.int .i64 a1.1,.int .i64 a1.2.1,.int .i64 a1.2.2],v2_]) Tryz.func70 z z (by simp) ?_
 refine rg (e_ z (y_boxS (cs:=#[pt f0_.p]) H z (fun b1 w H=>(e_ z (y_boxS (cs:=#[.int .i64 a1.1,.int .i64 a1.2.1,.int .i64 a1.2.2]) H z (fun b2 w H=>?_))))))
 obtain ⟨p3,n4,c5,rfl⟩:=rd_form h2
 refine e_ z (y_boxS (cs:=#[(.slice p3 n4 c5)]) H z (fun b6 w H=>(v_ z (sg (.slice none 0 0) z) (v_ z (sg (.int .u16 0) z) (nl (rg (v_ z (r_mkf [pt b1,pt b2] z) (v_ z (r_build (cs:=[.func (.func 119) #[] #[pt b1,pt b2],.int .u16 10]) e_bd_205 z) (v_ z (r_mkf [pt b6,pt b2] z) (v_ z (r_build (cs:=[.func (.func 120) #[] #[pt b6,pt b2],.int .u16 12]) e_bd_205 z) (e_ z (y_bsB (l:=[.func (.func 119) #[] #[pt b1,pt b2],.int .u16 10,.func (.func 120) #[] #[pt b6,pt b2],.int .u16 12]) e_sl_206 H z (by decide) ⟨z,z,z,z,z,z,trivial⟩ (by decide) (fun b7 w H=>?_)))))))))))))
 refine e_ z (y_J (fun v w=>∃ (k18 : Nat) (x17 : Int),k18 ≤ k ∧ encode_Encode.j0 k18 a1 a2 x17 = some r ∧ v = .int .u16 x17 ∧ St (Rs.fld f0_).fp w0 w [.fld f0_,.blk b1 #[pt f0_.p] 79,.blk b2 #[.int .i64 a1.1,.int .i64 a1.2.1,.int .i64 a1.2.2] 24,.blk b6 #[(.slice p3 n4 c5)] 22,.blk b7 #[.func (.func 119) #[] #[pt b1,pt b2],.int .u16 10,.func (.func 120) #[] #[pt b6,pt b2],.int .u16 12] 205]) ?_ ?_)
 · refine (y_in 18 [.slice (some ⟨b7,0,none⟩) 2 2] e_en_118 Tryz.func118 z z z z (rg (v_ z (sg (.int .u16 0) z) (nl (wc_seq (rg (v_ z (mv (.slice (some ⟨b7,0,none⟩) 2 2) z) (v_ z (rv_eq (r_len e_ul_206 z) (v':=.int .i64 2) z) (v_ z (mv (.int .i64 0) z) (nl (wc_block (wc_unroll (wu (rg (v_ z (rv_eq (v':=.bool true) (r_lss z z) z) (nl (wc_seq (wc_condT z (wc_skip (n_thn (wc_seq (wc_block (rg (v_ z (rv_eq (r_iaddr e_sl_206 z z (by decide) (by decide)) (v':=pt b7) z) (v_ z (r_loadB (l:=[.func (.func 119) #[] #[pt b1,pt b2],.int .u16 10]) e_ag_205 (H.get 4 z) z z z) (e_ z (y_allocS e_zr_205 H (fun b20 w H=>?_))))))))))))))))))))))))))))
   have H : St (Rs.fld f0_).fp w0 _ [.fld f0_,.blk b1 #[pt f0_.p] 79,.blk b2 #[.int .i64 a1.1,.int .i64 a1.2.1,.int .i64 a1.2.2] 24,.blk b6 #[(.slice p3 n4 c5)] 22,.blk b7 #[.func (.func 119) #[] #[pt b1,pt b2],.int .u16 10,.func (.func 120) #[] #[pt b6,pt b2],.int .u16 12] 205,.blk b20 #[.nilFunc,.int .u16 0] 205]:=H
   refine s_ (y_storeBA e_sz_205 H 5 z z z z z z (fun w H=>(nl (rg (v_ z (r_faddr e_fa_205_0 z) (v_ z (r_load e_sc_30 z (blk_cell (H.get 5 z) z)) (e_ z (y_inv 10 [pt b1,pt b2] z e_en_119 Tryz.func119 z z z z (rg (v_ z (sg (.bool false) z) (nl (rg (v_ z (r_load e_sc_79 z (blk_cell (H.get 1 z) z)) (v_ z (r_pneq0 Tryz.underlying79 z z) (v_ z (mv (.bool true) z) (on_ z z z (r_loadB (l:=[.int .i64 a1.1,.int .i64 a1.2.1,.int .i64 a1.2.2]) e_ag_24 (H.get 2 z) z z z) ?_))))))))))))))))
   obtain ⟨x23,E24,E⟩:=bind_some E
   refine wl_on z z z (y_callL e_en_38 z ((code_Right.calls E24).mono ?_))
   rintro _ w ⟨rfl,K⟩
   have H:=H.app K
   refine ⟨_,z,(on_ z z z (r_eql z z) (v_ z (pT (.bool (decide (x23 = 0))) z z z) (v_ z (sg (.bool (decide (x23 = 0))) z) (nl (wc_ret (⟨.inl z,.bool (decide (x23 = 0)),tk0 z ⟨resM z (rv_t rv_nil) z,(v_ z (r_not z) (nl ?_))⟩⟩))))))⟩
   refine wc_cond z (fun c25=>?_) (fun c25=>?_)
   · have E:=iT c25 E
     refine rg (v_ z (r_faddr e_fa_205_1 z) (v_ z (r_load e_sc_93 z (blk_cell (H.get 5 z) z)) (v_ z (sg (.int .u16 10) z) (nl (wc_ret ?_)))))
     exact (r_bk (r_thn (r_thn (r_bk (r_thn ⟨.inl z,.int .u16 10,tk0 z ⟨resM z (rv_t rv_nil) z,k,_,Nat.le_refl _,E,z,H.sel [0,1,2,3,4] z z⟩⟩)))))
   · have E:=iF c25 E
     refine wc_skip (n_bk (n_thn (wc_region (v_ z (rv_eq (v':=.int .i64 1) (r_add z z) z) (v_ z (mv (.int .i64 1) z) (wl_nil (n_thn (wu (rg (v_ z (rv_eq (v':=.bool true) (r_lss z z) z) (nl (wc_seq (wc_condT z (wc_skip (n_thn (wc_seq (wc_block (rg (v_ z (rv_eq (r_iaddr e_sl_206 z z (by decide) (by decide)) (v':=.pointer (some ⟨b7,2,none⟩)) z) (v_ z (r_loadB (l:=[.func (.func 120) #[] #[pt b6,pt b2],.int .u16 12]) e_ag_205 (H.get 4 z) z z z) (e_ z (y_allocS e_zr_205 H (fun b26 w H=>(s_ (y_storeBA e_sz_205 H 6 z z z z z z (fun w H=>(nl (rg (v_ z (r_faddr e_fa_205_0 z) (v_ z (r_load e_sc_30 z (blk_cell (H.get 6 z) z)) (e_ z (y_inv 8 [pt b6,pt b2] z e_en_120 Tryz.func120 z z z z (rg (v_ z (sg (.bool false) z) (nl (rg (v_ z (r_load e_sc_22 z (blk_cell (H.get 3 z) z)) (v_ z (r_lenR e_ul_22 (H.rd h2) z) (v_ z (r_faddr e_fa_24_1 z) (v_ z (r_load e_sc_3 z (blk_cell (H.get 2 z) z)) (v_ z (r_eql z z) (v_ z (sg (.bool (decide ((a2.length : Int) = a1.2.1))) z) (nl (wc_ret (⟨.inl z,.bool (decide ((a2.length : Int) = a1.2.1)),tk0 z ⟨resM z (rv_t rv_nil) z,(v_ z (r_not z) ?_)⟩⟩)))))))))))))))))))))))))))))))))))))))))))))
     refine nl ?_
     refine wc_cond z (fun c27=>?_) (fun c27=>?_)
     · have E:=iT c27 E
       refine rg (v_ z (r_faddr e_fa_205_1 z) (v_ z (r_load e_sc_93 z (blk_cell (H.get 6 z) z)) (v_ z (sg (.int .u16 12) z) (nl (wc_ret ?_)))))
       exact (r_bk (r_thn (r_thn (r_bk (r_thn ⟨.inl z,.int .u16 12,tk0 z ⟨resM z (rv_t rv_nil) z,k,_,Nat.le_refl _,E,z,H.sel [0,1,2,3,4] z z⟩⟩)))))
     · have E:=iF c27 E
       refine wc_skip (n_bk (n_thn (wc_region (v_ z (rv_eq (v':=.int .i64 2) (r_add z z) z) (v_ z (mv (.int .i64 2) z) (wl_nil (n_thn (wu (rg (v_ z (rv_eq (v':=.bool false) (r_lss z z) z) (nl (wc_seq (wc_condF z (wc_exit (x_thn (x_thn (x_bk (n_thn (rg (v_ z (sg (.int .u16 0) z) (nl (wc_ret ?_))))))))))))))))))))))
       exact ⟨.inl z,.int .u16 0,tk0 z ⟨resM z (rv_t rv_nil) z,k,_,Nat.le_refl _,E,z,H.sel [0,1,2,3,4] z z⟩⟩
 rintro _ w ⟨k18,x17,hk19,E,hv_,H⟩
 have hv_:=hv_.symm
 subst hv_
 unfold encode_Encode.j0 at E
 refine v_ z (sg (.int .u16 x17) z) (nl (wc_seq (rg (v_ z (mv (.int .u16 x17) z) (v_ z (r_neq z z) (nl ?_))))))
 refine wc_cond z (fun c29=>?_) (fun c29=>?_)
 · have E:=iT c29 E
   refine rg (v_ z (mv (.int .u16 x17) z) (v_ z (sg (.slice none 0 0) z) (v_ z (sg (.int .u16 x17) z) (nl (wc_ret ?_)))))
   have H:=H.nilOwn (.int .u8) 5
   cases E
   exact (r_thn ⟨.inl z,_,tk0 z ⟨resN z (rv_t (rv_t rv_nil)),_,z,H.sub2 0 5 z z z⟩⟩)
 · have E:=iF c29 E
   refine wc_skip (n_thn (rg (v_ z (r_loadB (l:=[.int .i64 a1.1,.int .i64 a1.2.1,.int .i64 a1.2.2]) e_ag_24 (H.get 2 z) z z z) ?_)))
   obtain ⟨x30,E31,E⟩:=bind_some E
   refine e_ z (y_callL e_en_113 z ((code_Space.calls E31).mono ?_))
   rintro _ w ⟨rfl,K⟩
   have H:=H.app K
   refine ⟨_,z,(v_ z (sg (.int .i64 x30) z) (nl (wc_seq (wc_drawnS (ds:=[]) e_mo H z z ?_))))⟩
   have H:=H.drew
   refine wt 0 (tf 1 5) z z z (by kernel_rfl) H (fun w H=>(mv (.int .i64 x30) z)) (wt 2 #[true,false,true,false,false] z z z (by kernel_rfl) H (fun w H=>(r_load e_sc_22 z (blk_cell (H.get 3 z) z))) ?_)
   obtain ⟨⟨g39,g40,g41⟩,E⟩:=grd_some E
   refine wa_one (i:=1) (l':=(tf 3 5)) z z z (by kernel_rfl) (y_make (e:=(.int .u8)) (z0:=0) e_sl_22 z H z z g39 g40 (by omega) (by omega) (fun v38 w H=>⟨fun _=>H.sel [0,1,2,3,4] z z,?_⟩))
   obtain ⟨g43,E⟩:=grd_some E
   refine wa_one (i:=3) (l':=(tf 4 5)) z z z (by kernel_rfl) (y_app e_sl_22 H 5 z (H.rd h2) z z (by omega) (by unfold maxLen; omega) (fun v42 w H=>⟨fun _=>H.sel [0,1,2,3,4] z z,(wa_oneV (i:=4) (l':=(tf 5 5)) z z z (by kernel_rfl) ((H.sel [0,1,2,3,4] z z)) (sg v42 z) (wa_done (by kernel_rfl) (n_thn (wc_seq (wc_drawnS (ds:=[]) e_mo H z z ?_)))))⟩))
   have H:=H.drew
   refine wt 0 (tf 1 11) z z z (by kernel_rfl) H (fun w H=>(r_load e_sc_79 z (blk_cell (H.get 1 z) z))) (wt 1 (tf 2 11) z z z (by kernel_rfl) H (fun w H=>(mv v42 z)) (wt 2 (tf 3 11) z z z (by kernel_rfl) H (fun w H=>(r_load e_sc_79 z (blk_cell (H.get 1 z) z))) (wt 3 (tf 4 11) z z z (by kernel_rfl) H (fun w H=>(r_loadB (l:=[.int .i64 a1.1,.int .i64 a1.2.1,.int .i64 a1.2.2]) e_ag_24 (H.get 2 z) z z z)) ?_)))
   obtain ⟨x44,E45,E⟩:=bind_some E
   refine wa_one (i:=4) (l':=(tf 5 11)) z z z (by kernel_rfl) (y_callL e_en_122 z ((code_Generator.calls (H.get 0 z) E45).mono ?_))
   rintro _ w ⟨v46,rfl,K⟩
   have H:=H.appX 0 z K
   refine ⟨_,z,⟨fun _=>H.sel [0,1,2,3,4,5] z z,?_⟩⟩
   obtain ⟨x47,E48,E⟩:=bind_some E
   refine wa_one (i:=5) (l':=(tf 6 11)) z z z (by kernel_rfl) (y_callL e_en_121 z ((quot_Mod.calls (H.get 0 z) (H.ownX 5 0 z z z (own_rd (H.get 5 z))) (H.ownX 6 0 z z z (own_rd (H.get 6 z))) E48).mono ?_))
   rintro _ w ⟨v49,rfl,K⟩
   have H:=H.appX 0 z K
   refine ⟨_,z,⟨fun _=>H.sel [0,1,2,3,4,5] z z,?_⟩⟩
   have H : St (Rs.fld f0_).fp w0 _ [.fld f0_,.blk b1 #[pt f0_.p] 79,.blk b2 #[.int .i64 a1.1,.int .i64 a1.2.1,.int .i64 a1.2.2] 24,.blk b6 #[(.slice p3 n4 c5)] 22,.blk b7 #[.func (.func 119) #[] #[pt b1,pt b2],.int .u16 10,.func (.func 120) #[] #[pt b6,pt b2],.int .u16 12] 205,.own (.int .u8) 5 v42 ((List.replicate x30.toNat (0 : Int)) ++ a2),.own (.int .u8) 5 v46 x44,.own (.int .u8) 5 v49 x47.1]:=H
   refine wt 6 (tf 7 11) z z z (by kernel_rfl) (H.sel [0,1,2,3,4,5] z z) (fun w H=>(r_move)) (wt 7 (tf 8 11) z z z (by kernel_rfl) (H.sel [0,1,2,3,4,5] z z) (fun w H=>(r_extract z z)) (wt 8 (tf 9 11) z z z (by kernel_rfl) (H.sel [0,1,2,3,4,5] z z) (fun w H=>(r_extract z z)) (wa_oneV (i:=9) (l':=(tf 10 11)) z z z (by kernel_rfl) ((H.sel [0,1,2,3,4,5] z z)) (sg v49 z) (wt 10 (tf 11 11) z z z (by kernel_rfl) (H.sel [0,1,2,3,4,5] z z) (fun w H=>(sg (.bool x47.2) z)) (wa_done (by kernel_rfl) (n_thn (rg (v_ z (mv v42 z) (v_ z (mv v49 z) (e_ z (y_copy e_sl_22 H 5 z (own_rd (H.get 7 z)) z z (fun w H=>(nl (rg (v_ z (mv v42 z) (v_ z (sg v42 z) (v_ z (sg (.int .u16 0) z) (nl (wc_ret ?_)))))))))))))))))))
   cases E
   exact ⟨.inl z,_,tk0 z ⟨resN z (rv_t (rv_t rv_nil)),_,z,H.sub2 0 5 z z z⟩⟩
def value_At.l0 : Nat → List Int → Int → Int → Int → Option (Int)
 | 0,_,_,_,_=>none
 | k + 1,a1,a2,x22,x23=>bif decide (0 ≤ x23) then (grd (decide ((0 : Int) ≤ x23 ∧ x23 < (a1.length : Int))) ((field_Field_Mul.f x22 a2).bind fun x37=>value_At.l0 k a1 a2 (bits .xor .u8 x37 (at_ 0 a1 x23)) (i64.wrap (x23 - 1)))) else (some x22)
def value_At.f (k : Nat) (a1 : List Int) (a2 : Int) : Option (Int):=value_At.l0 k a1 a2 0 (i64.wrap ((a1.length : Int) - 1))
theorem value_At.calls {w0 : World} {k : Nat} {f0_ : FD} {a1 : List Int} {a2 : Int} {v1_ : Value} {r : Int} (hf : (Rs.fld f0_).inv w0) (h1 : Rd (.of (.int .u8)) w0 (Ol (Rs.fld f0_).fp w0) v1_ a1) (E : value_At.f k a1 a2 = some r) :
   Calls Tryz.prog 138 #[pt f0_.p,v1_,.int .u8 a2] w0 fun e w'=>e = .returned (.int .u8 r) ∧ St (Rs.fld f0_).fp w0 w' [.fld f0_]:=by
 have H:=St.start hf
 unfold value_At.f at E
 refine calls_of_wc (N:=24) (args:=[pt f0_.p,v1_,.int .u8 a2]) Tryz.func138 z z (by simp) ?_
 have H:=H.mk0
 refine rg (e_ z (y_boxS (cs:=#[pt f0_.p]) H z (fun b1 w H=>(e_ z (y_boxS (cs:=#[.int .u8 a2]) H z (fun b2 w H=>(v_ z (sg (.int .u8 0) z) (nl (rg (e_ z (y_allocS e_zr_5 H (fun b3 w H=>(nl (wc_seq (rg (v_ z (r_load e_sc_79 z (blk_cell (H.get 2 z) z)) (v_ z (r_peql0 Tryz.underlying79 z z) (nl (wc_condF z (wc_skip (n_thn (wc_seq (rg (v_ z (mv v1_ z) (e_ z (y_in 4 [v1_] e_en_194 Tryz.func194 z z z z (rg ?_)))))))))))))))))))))))))))
 obtain ⟨p8,n9,c10,rfl⟩:=rd_form h1
 refine e_ z (y_boxS (cs:=#[(.slice p8 n9 c10)]) H z (fun b11 w H=>(v_ z (sg (.nilFunc) z) (nl (rg (v_ z (r_mkf [pt b11] z) (v_ z (sg (.func (.func 251) #[] #[pt b11]) z) (nl (wc_ret (⟨.inl z,.func (.func 251) #[] #[pt b11],tk0 z ⟨resM z (rv_t rv_nil) z,(nl (wc_block (wc_rf 19 [pt b11] z Tryz.func251 z z z z z H 1 z z (fun v15 b12 o13 w hO14 H=>(rg ?_)))))⟩⟩))))))))))
 have H : St (Rs.fld f0_).fp w0 _ [.fld f0_,.mks v15,.blk b1 #[pt f0_.p] 79,.blk b2 #[.int .u8 a2] 5,.blk b3 #[.int .u8 0] 5,.blk b11 #[(.slice p8 n9 c10)] 22,.obj b12 (.loop o13)]:=H
 refine v_ z (r_load e_sc_22 z (blk_cell (H.get 5 z) z)) (v_ z (r_lenR e_ul_22 (H.rd h1) z) (v_ z (r_sub z z) (v_ z (sg (.int .i64 (i64.wrap ((a1.length : Int) - 1))) z) (nl (wc_block ?_)))))
 refine wc_loop (fun kk t w=>∃ (x22 : Int) (x23 : Int) (t32 : Fr),kk ≤ k ∧ value_At.l0 kk a1 a2 x22 x23 = some r ∧ t = upds t32 [(0,.func (.yield b12) #[] #[]),(1,pt b11),(3,.int .i64 x23),(1000000,undef)] ∧ St (Rs.fld f0_).fp w0 w [.fld f0_,.mks v15,.blk b1 #[pt f0_.p] 79,.blk b2 #[.int .u8 a2] 5,.blk b3 #[.int .u8 x22] 5,.blk b11 #[(.slice p8 n9 c10)] 22,.obj b12 (.loop o13)]) k ?_ ?_
 · exact ⟨_,_,_,Nat.le_refl _,E,upds_eq ⟨z,z,z,z,trivial⟩,H⟩
 rintro kk t w ⟨x22,x23,t32,hk31,E,rfl,H⟩
 obtain ⟨k30,rfl⟩ | rfl : (∃ k',kk = k' + 1) ∨ kk = 0:=by cases kk; exact .inr rfl; exact .inl ⟨_,rfl⟩
 rotate_left
 · cases E
 rw [value_At.l0] at E
 refine wc_seq (rg (v_ z (mv (.int .i64 x23) z) (v_ z (r_geq z z) (nl ?_))))
 refine wc_cond z (fun c34=>?_) (fun c34=>?_)
 · have E:=iT c34 E
   refine wc_skip (n_thn (wc_seq (wc_block (rg (v_ z (mv (.func (.yield b12) #[] #[]) z) (v_ z (mv (.int .i64 x23) z) (v_ z (r_load e_sc_22 z (blk_cell (H.get 5 z) z)) (v_ z (mv (.int .i64 x23) z) ?_))))))))
   obtain ⟨⟨g35,g36⟩,E⟩:=grd_some E
   refine v_ z (r_idx e_sl_22 (H.rd h1) z z g35 g36) (v_ z (r_ldI e_sc_5 (H.rd h1) g35 g36 z) (e_ z (y_yld [.int .i64 x23,.int .u8 (at_ 0 a1 x23)] z z H 6 z hO14 z z (wc_region (v_ z (sg (.int .u8 (at_ 0 a1 x23)) z) (wl_nil (yB H 6 z hO14 (fun w H=>(wc_block (wc_region (v_ z (r_load e_sc_79 z (blk_cell (H.get 2 z) z)) (v_ z (r_load e_sc_5 z (blk_cell (H.get 4 z) z)) (v_ z (r_load e_sc_5 z (blk_cell (H.get 3 z) z)) ?_)))))))))))))
   obtain ⟨x37,E38,E⟩:=bind_some E
   refine e_ z (y_callL e_en_195 z ((field_Field_Mul.calls (H.get 0 z) E38).mono ?_))
   rintro _ w ⟨rfl,K⟩
   have H:=H.appX 0 z K
   refine ⟨_,z,(v_ z (mv (.int .u8 (at_ 0 a1 x23)) z) (v_ z (r_xor z z) (s_ (y_storeB e_sz_5 H 4 z z z z z (fun w H=>(wl_nil (n_bk (yN H 6 z hO14 (fun w H=>(v_ z (rv_eq (v':=.bool false) (r_not z) z) (nl (wc_condF z (wc_skip (n_bk (n_thn (wc_region (v_ z (mv (.int .i64 x23) z) (v_ z (r_sub z z) (v_ z (sg (.int .i64 (i64.wrap (x23 - 1))) z) (wl_nil ?_))))))))))))))))))))⟩
   exact ⟨k30,Nat.lt_succ_self _,_,_,_,Nat.le_of_succ_le hk31,E,upds_eq ⟨z,z,z,z,trivial⟩,H⟩
 · have E:=iF c34 E
   refine wc_exit (x_thn (x_thn (x_bk (⟨.inr z,.tuple #[],tk0 z ⟨resM z rv_nil z,(el_n H 6 z hO14 (fun w H=>(n_bk (n_thn (rg (v_ z (r_load e_sc_5 z (blk_cell (H.get 4 z) z)) (v_ z (sg (.int .u8 x22) z) (nl (wc_ret ?_)))))))))⟩⟩))))
   cases E
   exact ⟨.inl z,_,tkA H 1 z z (fun w H=>⟨resN z (rv_t rv_nil),z,H.sub1 0 z⟩)⟩
end Go.Proofs.YtkndgkbgbmhjoaaGreatDoor.Gw
