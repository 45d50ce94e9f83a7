/- A part of the proof. -/
import Derived.KernelRfl
import Derived.WalkKit
set_option linter.all false
namespace Go.Proofs.YtmhkpafkadijgaaGreatDoor.Gw
open Go Go.RowKit
theorem a_{p:Prop}(h:p:=by omega):p:=h
theorem d_{p:Prop}(h:p:=by kernel_rfl):p:=h
theorem f_{p:Prop}(h:p:=by decide):p:=h
theorem g_{p:Prop}(h:p:=by rw[YO];omega):p:=h
theorem j_{p:Prop}(h:p:=by simp):p:=h
theorem l_{p:Prop}(h:p:=by simp;omega):p:=h
abbrev n_:=@Int.toNat_natCast
abbrev o_:=@List.mem_cons_of_mem
abbrev r_:=@List.length_cons
theorem t_{p:Prop}(h:p:=by rw[ca (by omega) (by omega)];omega):p:=h
theorem u_{p:Prop}(h:p:=by unfold maxLen;omega):p:=h
theorem w_{p:Prop}(h:p:=by (try simp only[List.length_append,List.length_cons,List.length_nil]);omega):p:=h
abbrev x_:=@List.length_map
abbrev y_:=@List.take_succ_eq_append_getElem
abbrev C_:=@List.getElem?_eq_getElem
abbrev D_:=@List.take_of_length_le
abbrev E_:=@List.length_append
theorem G_{p:Prop}(h:p:=by rw[iQ];omega):p:=h
abbrev H_:=@List.mem_cons_self
abbrev I_:=@if_neg
theorem K_{p:Prop}(h:p:=by show _=_;kernel_rfl):p:=h
abbrev L_:=@congrArg
abbrev M_:=@if_pos
abbrev N_:=@List.length_nil
theorem O_{p:Prop}(h:p:=by rw[Nat.add_mul];omega):p:=h
abbrev P_:=@List.length_replicate
abbrev Q_:=@List.mem_singleton
theorem R_{p:Prop}(h:p:=by decide+kernel):p:=h
abbrev S_:=@Bool.and_eq_true
abbrev T_:=@List.getElem_mem
abbrev U_:=@cond_false
abbrev V_:=@Nat.add_mul
abbrev W_:=@decide_eq_true
abbrev X_:=@List.mem_cons
abbrev Y_:=@List.all_eq_true
abbrev Z_:=@Nat.le_of_ble_eq_true
abbrev δ:=@List.drop_eq_getElem_cons
abbrev ε:=@List.getElem?_append_right
abbrev ζ:=@List.length_take
theorem η{p:Prop}(h:p:=by rw[List.length_set];omega):p:=h
abbrev θ:=@decide_eq_false
abbrev ι:=@List.map_cons
abbrev ν:=@Bool.not_true
abbrev τ:=@List.getElem?_eq_none
abbrev υ:=@List.length_set
abbrev φ:=@List.mem_range
abbrev χ:=@List.getElem?_eq_some_iff
abbrev ψ:=@List.nil_append
abbrev ω:=@List.mem_of_getElem?
abbrev Γ:=@List.drop_zero
theorem Δ{p:Prop}(h:p:=by simp only[cK,List.length_append,List.length_cons,List.length_nil];omega):p:=h
abbrev Θ:=@List.drop_of_length_le
abbrev Ξ:=@List.pairwise_cons
abbrev Φ:=@Nat.mul_le_mul
abbrev Ψ:=@List.eq_nil_of_length_eq_zero
abbrev Ω:=@List.pairwise_iff_getElem
abbrev ξ:=@List.getElem?_append_left
theorem aC{p:Prop}(h:p:=by unfold Rv;simp[execOp,hx,hy,go_sem]):p:=h
theorem aS{p:Prop}(h:p:=by simp at h):p:=h
abbrev aT:=@of_decide_eq_true
abbrev bP:=@List.take_zero
abbrev bY:=@List.getD_cons_succ
abbrev dO:=@List.mem_append
abbrev eF:=@Nat.eq_of_beq_eq_true
abbrev fQ:=@List.append_nil
theorem iU{p:Prop}(h:p:=by simp only[];omega):p:=h
abbrev jc:=@Nat.zero_le
theorem kL{p:Prop}(h:p:=by rw[Ru,h.len];omega):p:=h
theorem rG{p:Prop}(h:p:=by simp only;omega):p:=h
abbrev rW:=@List.map_nil
theorem sW{p:Prop}(h:p:=by simpa using h):p:=h
abbrev uV:=@List.mem_map
abbrev wI:=@List.nodup_cons
theorem xn{p:Prop}(h:p:=by simp only[List.length_cons];omega):p:=h
abbrev xq:=@Classical.byContradiction
abbrev xJ:=@List.length_filter_le
theorem yt{p:Prop}(h:p:=by exact rfl):p:=h
abbrev yC:=@List.length_range
abbrev Ac:=@List.getElem?_take
abbrev Bv:=@List.cons_append
abbrev Bz:=@List.length_pos_iff
theorem BC{p:Prop}(h:p:=by rw[iQ];simp only[List.length_cons,List.length_nil];omega):p:=h
abbrev BF:=@Nat.mul_le_mul_right
abbrev Cf:=@List.nodup_iff_pairwise_ne
abbrev Dc:=@List.pairwise_singleton
abbrev DX:=@List.append_assoc
abbrev DZ:=@List.set_append_right
abbrev ED:=@Nat.lt_of_lt_of_le
abbrev EI:=@Nat.mul_one
theorem EJ{p:Prop}(h:p:=by rfl):p:=h
abbrev EK:=@cond_true
theorem EM{p:Prop}(h:p:=by rw[YO,List.length_map];omega):p:=h
theorem EN{p:Prop}(h:p:=by rw[YO];simp;omega):p:=h
abbrev EO:=@Int.tmod_eq_emod_of_nonneg
abbrev EP:=@Int.tdiv_eq_ediv_of_nonneg
abbrev ER:=@Array.getElem?_eq_some_iff
abbrev ES:=@List.getElem_of_mem
abbrev ET:=@Nat.not_lt_zero
abbrev EU:=@List.take_length
abbrev EW:=@List.range_succ
theorem EX{p:Prop}(h:p:=by rw[Int.tmod_eq_emod_of_nonneg (by omega)];omega):p:=h
theorem EY{p:Prop}(h:p:=by rw[Int.tdiv_eq_ediv_of_nonneg (by omega)];omega):p:=h
abbrev EZ:=@Array.ext'
theorem Fb{p:Prop}(h:p:=by rw[YO,h.iO];omega):p:=h
theorem Fe{p:Prop}(h:p:=by rw[List.length_map];omega):p:=h
abbrev Ff:=@Nat.sub_self
abbrev Fg:=@List.map_append
abbrev Fj:=@List.getElem_map
abbrev Fp:=@List.getElem?_replicate
abbrev Fq:=@List.ext_getElem
abbrev FC:=@List.mem_append_left
abbrev FH:=@BitVec.ofInt_natCast
abbrev FI:=@Nat.pow_succ
abbrev FK:=@Nat.add_sub_cancel
abbrev FM:=@List.set_cons_zero
abbrev FN:=@List.getElem_range
theorem FO{p:Prop}(h:p:=by show(w.heap.push _)[w.heap.size]? =_;simp):p:=h
abbrev FP:=@Option.some.inj
abbrev FQ:=@Nat.xor_assoc
abbrev FT:=@List.length_drop
abbrev FU:=@List.replicate_succ
theorem FV{p:Prop}(h:p:=by rw[List.length_replicate];omega):p:=h
abbrev FW:=@Nat.zero_add
abbrev FX:=@Nat.mul_comm
theorem FY{p:Prop}(h:p:=by unfold wr;have:=List.length_filter_le (fun i=>!decide (r.getD i 0=w.getD i 0)&&!decide (i∈([]:List Nat))) (List.range i);rw[List.length_range]at this;exact this):p:=h
abbrev FZ:=@Nat.pow_le_pow_right
abbrev Gp:=@Nat.mod_two_eq_zero_or_one
theorem Gs{p:Prop}(h:p:=by simp only[];rw[iQ];omega):p:=h
theorem Gu{p:Prop}(h:p:=by unfold wr;have:=List.length_filter_le (fun i=>!decide (r.getD i 0=w.getD i 0)&&!decide (i∈e)) (List.range N);rw[List.length_range]at this;exact this):p:=h
abbrev Gx:=@List.mem_append_right
abbrev Gy:=@Nat.add_zero
theorem IC{p:Prop}(h:p:=by rw[jx (by omega) (by omega)];omega):p:=h
abbrev IE:=@List.getElem?_drop
abbrev IJ:=@List.length_eq_zero_iff
theorem IK{p:Prop}(h:p:=by rw[List.length_take];omega):p:=h
theorem JB{p:Prop}(h:p:=by rw[hl];decide):p:=h
abbrev J8:=@List.flatten_cons
abbrev KT:=@List.flatMap_cons
abbrev KU:=@Int.toNat_of_nonneg
theorem KW{p:Prop}(h:p:=by simp[Rows.playDecodesRow,OpenClaim.assume]):p:=h
theorem KX{p:Prop}(h:p:=by have:=hbe j hj;omega):p:=h
abbrev KY:=@Nat.two_pow_pos
abbrev KZ:=@Bool.or_eq_true
abbrev La:=@Array.getElem?_eq_getElem
theorem Lc{p:Prop}(h:p:=by subst hv;apply Array.ext';simp):p:=h
abbrev Ld:=@Option.getD_some
abbrev Le:=@List.filter_cons
abbrev Lh:=@Nat.le_trans
abbrev Lj:=@List.take_append_of_le_length
abbrev Ll:=@Option.some.injEq
abbrev Lm:=@Nat.succ_pred_eq_of_pos
abbrev Lp:=@List.getElem?_set
abbrev Lr:=@List.getElem?_map
theorem Ls{p:Prop}(h:p:=by rw[YO,dI];omega):p:=h
abbrev Lt:=@List.mem_filter
theorem Lu{p:Prop}(h:p:=by rw[YO];exact ca (by omega) (by omega)):p:=h
theorem LC{p:Prop}(h:p:=by rw[YO,ca (by omega) (by omega)];omega):p:=h
abbrev LD:=@Nat.testBit_lt_two_pow
abbrev LG:=@Array.getD_eq_getD_getElem?
abbrev LH:=@Nat.xor_lt_two_pow
abbrev LJ:=@List.pairwise_append
abbrev LK:=@List.mem_of_mem_take
abbrev LM:=@List.getElem_zipWith
abbrev LP:=@List.getD_cons_zero
abbrev LQ:=@Array.length_toList
abbrev LU:=@List.range'_succ
abbrev LV:=@List.getElem_set
abbrev LW:=@List.getElem?_cons_succ
theorem LX{p:Prop}(h:p:=by simpa using h1):p:=h
abbrev LY:=@Nat.le_refl
abbrev LZ:=@Nat.zero_xor
abbrev Me:=@Nat.lt_or_ge
abbrev MC:=@BitVec.setWidth_eq
abbrev Nh:=@BitVec.ofNat_toNat
abbrev Nj:=@Array.getElem?_eq_none
theorem Nk{p:Prop}(h:p:=by rw[List.length_map,hgl];omega):p:=h
abbrev Nl:=@Nat.min_eq_left
theorem Np{p:Prop}(h:p:=by simp at h;subst h;rfl):p:=h
theorem Nq{p:Prop}(h:p:=by rw[YO,List.length_map,List.length_range];simp only[List.length_cons,List.length_nil];omega):p:=h
abbrev Nr:=@List.take_append_drop
abbrev Ns:=@Array.getElem?_modify
theorem Nu{p:Prop}(h:p:=by rw[YO,hrl];omega):p:=h
theorem Nv{p:Prop}(h:p:=by rw[YO,List.length_map,List.length_map];simp only[List.length_cons,List.length_nil];omega):p:=h
abbrev Nw:=@if_true
abbrev Ny:=@decide_eq_true_eq
abbrev Nz:=@beq_iff_eq
abbrev NC:=@List.getD_eq_getElem?_getD
abbrev ND:=@Nat.zero_mul
abbrev NF:=@Nat.le_of_eq
theorem NG{p:Prop}(h:p:=by rw[h.len];exact hiR):p:=h
theorem NH{p:Prop}(h:p:=by rw[YO,YO,ca (by omega) (by omega)];omega):p:=h
theorem NI{p:Prop}(h:p:=by rw[List.length_drop];omega):p:=h
abbrev NJ:=@Nat.testBit_two_pow_of_ne
abbrev NK:=@List.mem_or_eq_of_mem_set
theorem NL{p:Prop}(h:p:=by unfold min2;split<;>omega):p:=h
abbrev NM:=@Bool.true_and
theorem NQ{p:Prop}(h:p:=by simpa using hb):p:=h
theorem NR{p:Prop}(h:p:=by rw[List.drop_eq_getElem_cons hi,dG hi]):p:=h
abbrev NS:=@Option.map_some
abbrev NT:=@List.take_left'
theorem NU{p:Prop}(h:p:=by rw[BitVec.ofInt_natCast,BitVec.toNat_ofNat];exact Nat.mod_eq_of_lt (by omega)):p:=h
abbrev NV:=@Int.emod_lt_of_pos
abbrev NW:=@Bool.false_eq_true
theorem NY{p:Prop}(h:p:=by simp only[List.nil_append,List.cons_append,mJ,c1,c3,c6,cond_true,cond_false]):p:=h
theorem NZ{p:Prop}(h:p:=by rw[←Act.put_comm a v u h2];exact he):p:=h
theorem N8{p:Prop}(h:p:=by rw[YO,hr]):p:=h
theorem N9{p:Prop}(h:p:=by have:=(Sf.1 hi).1;omega):p:=h
abbrev Oi:=@List.zipWith_cons_cons
abbrev Oj:=@List.pairwise_map
abbrev Ot:=@List.getElem_replicate
abbrev Ou:=@List.getElem?_set_self
abbrev Ov:=@List.filter_congr
abbrev Ox:=@Bool.not_eq_true'
abbrev Oy:=@Bool.false_and
theorem OB{p:Prop}(h:p:=by rw[YO,List.length_map];simp only[List.length_cons,List.length_nil];omega):p:=h
theorem O8{p:Prop}(h:p:=by simp[Lit.wf,IntKind.min,IntKind.max,IntKind.signed,IntKind.bits];omega):p:=h
theorem Pz{p:Prop}(h:p:=by rw[Nat.pow_succ];omega):p:=h
abbrev PG:=@List.eq_nil_or_concat
abbrev PN:=@List.concat_eq_append
abbrev PO:=@decide_eq_decide
abbrev PQ:=@Nat.mod_eq_of_lt
abbrev PR:=@Nat.blt_eq
theorem PS{p:Prop}(h:p:=by simp[bm.all]):p:=h
theorem PT{p:Prop}(h:p:=by simp only[List.length_append,List.length_cons,List.length_nil];omega):p:=h
theorem PU{p:Prop}(h:p:=by rw[og];omega):p:=h
theorem PV{p:Prop}(h:p:=by rw[mg];omega):p:=h
abbrev PX:=@List.all_cons
abbrev PY:=@List.range_eq_range'
abbrev PZ:=@List.getElem?_set_ne
theorem P5{p:Prop}(h:p:=by rw[h.len];omega):p:=h
abbrev P6:=@List.foldl_cons
abbrev P7:=@List.cons.injEq
abbrev P8:=@Int.emod_nonneg
theorem P9{p:Prop}(h:p:=by rw[ha.eval];exact hx):p:=h
theorem Qa{p:Prop}(h:p:=by have e:=hm.len;omega):p:=h
abbrev Rk:=@Nat.min_eq_zero_iff
abbrev Rw:=@List.map_congr_left
abbrev YT:=@List.flatten_append
abbrev Zw:=@Nat.xor_zero
theorem Zz{p:Prop}(h:p:=by rw[Nat.pow_succ,Nat.mul_comm 2 a,Nat.mul_assoc,Nat.mul_comm 2]):p:=h
theorem ZA{p:Prop}(h:p:=by have e':=e;simp only[YP];omega):p:=h
theorem ZB{p:Prop}(h:p:=by cases e):p:=h
abbrev ZC:=@if_false
abbrev ZE:=@Nat.mod_lt
abbrev ZF:=@List.set_cons_succ
abbrev ZG:=@List.filter_append
abbrev ZH:=@Int.fdiv_eq_ediv_of_nonneg
abbrev ZI:=@Eq.trans
abbrev ZJ:=@Bool.not_false
abbrev ZK:=@BitVec.toNat_ofNat
theorem ZL{p:Prop}(h:p:=by simp only[c];omega):p:=h
theorem ZM{p:Prop}(h:p:=by rw[←ha.eval];rfl):p:=h
theorem ZN{p:Prop}(h:p:=by rw[h.len];exact hi):p:=h
abbrev ZO:=@Nat.pow_add
abbrev ZP:=@List.nodup_append
abbrev ZQ:=@Nat.add_assoc
abbrev ZR:=@ByteArray.ext
theorem ZT{p:Prop}(h:p:=by rw[hz];intro hh;rcases(by simpa using hh:_)with hh;omega):p:=h
theorem ZU{p:Prop}(h:p:=by simp[cR,iE];omega):p:=h
abbrev ZV:=@Nat.add_sub_cancel_left
abbrev ZW:=@List.map_toArray
abbrev ZX:=@List.length_ofFn
abbrev ZY:=@List.countP_cons
theorem ZZ{p:Prop}(h:p:=by simp[go_sem]):p:=h
theorem Z4{p:Prop}(h:p:=by rw[lS];omega):p:=h
theorem Z5{p:Prop}(h:p:=by rw[if_neg hc];simp only[Option.map_some,Addr.add_mid]):p:=h
abbrev Z7:=@Ne.symm
abbrev Z8:=@List.map_map
theorem Z9{p:Prop}(h:p:=by unfold max2;split<;>omega):p:=h
theorem aab{p:Prop}(h:p:=by simpa using h 0 (by simp)):p:=h
theorem aac{p:Prop}(h:p:=by simp[h]):p:=h
theorem aad{p:Prop}(h:p:=by cases h):p:=h
abbrev aae:=@Nat.zero_lt_one
abbrev aaf:=@List.filter_nil
abbrev aag:=@Int.natCast_mul
abbrev aah:=@Nat.ble_eq_true_of_le
abbrev aai:=@List.getElem?_toArray
theorem aaj{p:Prop}(h:p:=by simp[bF,hi]):p:=h
theorem aak{p:Prop}(h:p:=by rw[YO,YO,List.length_map,List.length_map,tI];omega):p:=h
theorem aal{p:Prop}(h:p:=by unfold cW;omega):p:=h
theorem aam{p:Prop}(h:p:=by simpa using hne):p:=h
theorem aan{p:Prop}(h:p:=by simp only[List.length_cons,List.length_nil];omega):p:=h
theorem aao{p:Prop}(h:p:=by rw[YO,hl];omega):p:=h
abbrev aap:=@List.replicate_succ'
theorem aaq{p:Prop}(h:p:=by simp[hl]):p:=h
abbrev aar:=@Array.toList_append
theorem aas{p:Prop}(h:p:=by simpa using hp):p:=h
theorem aat{p:Prop}(h:p:=by simpa using hj):p:=h
theorem aau{p:Prop}(h:p:=by simpa using hi):p:=h
theorem aav{p:Prop}(h:p:=by simp[kx];omega):p:=h
theorem aaw{p:Prop}(h:p:=by rw[hg.1];omega):p:=h
theorem aax{p:Prop}(h:p:=by rw[cK,cK,List.length_append,hl,hl2];simp;omega):p:=h
theorem aay{p:Prop}(h:p:=by rw[Nat.pow_succ];have:=Nat.two_pow_pos f;omega):p:=h
abbrev aaz:=@Nat.mul_assoc
abbrev aaA:=@List.map_take
abbrev aaB:=@decide_eq_true_iff
abbrev aaC:=@Nat.lt_or_gt_of_ne
abbrev aaD:=@List.foldl_toArray
abbrev aaE:=@BitVec.getLsbD_xor
theorem aaF{p:Prop}(h:p:=by have e':b3=3:=e;omega):p:=h
theorem aaG{p:Prop}(h:p:=by subst hc;unfold Rv;simp only[execOp,hx];rfl):p:=h
theorem aaH{p:Prop}(h:p:=by simp[c];omega):p:=h
theorem aaI{p:Prop}(h:p:=by go_simp):p:=h
abbrev aaJ:=@Nat.xor_self
abbrev aaK:=@Nat.sub_zero
abbrev aaL:=@Nat.add_comm
theorem aaM{p:Prop}(h:p:=by rw[h1]at h0;cases h0):p:=h
theorem aaN{p:Prop}(h:p:=by rw[cK,cK];simp;omega):p:=h
abbrev aaO:=@List.replicate_append_replicate
abbrev aaQ:=@List.nodup_range
theorem aaR{p:Prop}(h:p:=by simpa [h0] using hT):p:=h
theorem aaS{p:Prop}(h:p:=by simp only[YP];omega):p:=h
theorem aaT{p:Prop}(h:p:=by rw[lM];omega):p:=h
theorem aaU{p:Prop}(h:p:=by rw[S2];omega):p:=h
theorem aaV{p:Prop}(h:p:=by rw[Ru];omega):p:=h
theorem aaW{p:Prop}(h:p:=by rw[Nat.add_assoc,←Nat.add_mul];exact r):p:=h
theorem aaX{p:Prop}(h:p:=by rw[List.drop_eq_getElem_cons hix,dG hix]):p:=h
theorem aaY{p:Prop}(h:p:=by unfold Rv;simp[execOp,hx,hy,go_sem];rfl):p:=h
theorem aaZ{p:Prop}(h:p:=by rw[List.length_map];exact ns (H.Gt 1 z)):p:=h
abbrev aa0:=@Nat.testBit_xor
abbrev aa1:=@Array.getElem?_setIfInBounds
theorem aa2{p:Prop}(h:p:=by unfold Rv;simp[execOp,hx,hy,hb,go_sem]):p:=h
theorem aa3{p:Prop}(h:p:=by rw[YO,x2.iO];omega):p:=h
abbrev aa4:=@List.take_length_add_append
abbrev aa5:=@List.drop_length_add_append
theorem aa6{p:Prop}(h:p:=by simp only[execOp,Option.map_none];rfl):p:=h
theorem aa7{p:Prop}(h:p:=by rw[BQ (R:=R) g1 g2 _ (aI _)];exact tX):p:=h
abbrev aa8:=@Nat.testBit_two_pow_add_gt
abbrev aa9:=@Nat.testBit_two_pow_add_eq
abbrev abb:=@List.take_take
abbrev abd:=@List.take_left
abbrev abe:=@Array.toList_setIfInBounds
theorem abg{p:Prop}(h:p:=by rw[←hn];exact wE fun j hj=>hz j hj):p:=h
theorem abj{p:Prop}(h:p:=by have:=Nat.two_pow_pos (dw 8 n);omega):p:=h
abbrev abk:=@List.getElem_append_right
theorem acu:True:=True.intro
end Go.Proofs.YtmhkpafkadijgaaGreatDoor.Gw
