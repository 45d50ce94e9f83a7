/- The card of the law that what a desk encodes is read back from what it tells: a part of its proof. The conditions are those of the statement. -/
import Derived.Test.YtkndgkbgbmhjoaaGreatDoorQ2
import Derived.Test.YtkndgkbgbmhjoaaGreatDoorQ4
import Derived.Test.YtkndgkbgbmhjoaaGreatDoorQ12
import Derived.Test.YtkndgkbgbmhjoaaGreatDoorQ13
import Derived.Test.YtkndgkbgbmhjoaaGreatDoorQ14
import Derived.Test.YtkndgkbgbmhjoaaGreatDoorQ15
import Derived.Test.YtkndgkbgbmhjoaaGreatDoorQ16
import Derived.Test.YtkndgkbgbmhjoaaGreatDoorQ17
import Derived.Test.YtkndgkbgbmhjoaaGreatDoorQ18
import Derived.Test.YtkndgkbgbmhjoaaGreatDoorQ19
import Derived.Test.YtkndgkbgbmhjoaaGreatDoorQ7
import Derived.Shelf.LaysM
import Derived.Shelf.Strings.Builder1
import Derived.Shelf.Strings.OnBuilder
import Derived.Shelf.Strconv.Atoi
import Derived.Shelf.Strconv.Itoa3
import Derived.Shelf.Strings.Split
import Derived.Shelf.Slices.Delete
import Derived.Shelf.Strings.SlTrimAscii
import Derived.Ground.Names2Prog
import Derived.Test.YtkndgkbgbmhjoaaGreatDoorProg
namespace Go.Proofs.YtkndgkbgbmhjoaaGreatDoor.Gw
set_option linter.unusedSimpArgs false
set_option linter.unusedVariables false
structure GF where
 val : Nat
 lt : val < 256
namespace GF
theorem ext {a b : GF} (h : a.1 = b.1) : a = b := by
 cases a; cases b; cases h; rfl
instance : DecidableEq GF := fun a b => if h : a.1 = b.1 then .isTrue (ext h) else .isFalse fun e => h (congrArg GF.val e)
def add (a b : GF) : GF := ⟨a.1 ^^^ b.1, xor_lt a.2 b.2⟩
def mul (a b : GF) : GF := ⟨gmN a.1 b.1, gmN_lt _ a.2⟩
instance : Add GF := ⟨add⟩
instance : Mul GF := ⟨mul⟩
instance : OfNat GF 0 := ⟨⟨0, by decide⟩⟩
instance : OfNat GF 1 := ⟨⟨1, by decide⟩⟩
instance : Inhabited GF := ⟨0⟩
theorem mul_val (a b : GF) : (a * b).1 = gmN a.1 b.1 := rfl
@[simp] theorem zero_val : (0 : GF).1 = 0 := rfl
@[simp] theorem one_val : (1 : GF).1 = 1 := rfl
theorem add_comm (a b : GF) : a + b = b + a := ext (Nat.xor_comm _ _)
theorem add_assoc (a b c : GF) : a + b + c = a + (b + c) := ext (Nat.xor_assoc _ _ _)
theorem add_self (a : GF) : a + a = 0 := ext (Nat.xor_self _)
theorem add_zero (a : GF) : a + 0 = a := ext (Nat.xor_zero _)
theorem zero_add (a : GF) : 0 + a = a := ext (Nat.zero_xor _)
theorem mul_comm (a b : GF) : a * b = b * a := ext (gmN_comm a.2 b.2)
theorem mul_assoc (a b c : GF) : a * b * c = a * (b * c) := ext (gmN_assoc _ a.2 b.2)
theorem mul_one (a : GF) : a * 1 = a := ext gmN_one_r
theorem one_mul (a : GF) : 1 * a = a := ext (gmN_one_l a.2)
theorem mul_zero (a : GF) : a * 0 = 0 := ext (gmN_zero_r _)
theorem zero_mul (a : GF) : 0 * a = 0 := ext (gmN_zero_l a.2)
theorem mul_add (a b c : GF) : a * (b + c) = a * b + a * c := ext (gmN_xor_r _ _ _)
theorem add_mul (a b c : GF) : (a + b) * c = a * c + b * c := ext (gmN_xor_l _ a.2 b.2)
instance : Std.Associative (α := GF) (· + ·) := ⟨add_assoc⟩
instance : Std.Commutative (α := GF) (· + ·) := ⟨add_comm⟩
instance : Std.Associative (α := GF) (· * ·) := ⟨mul_assoc⟩
instance : Std.Commutative (α := GF) (· * ·) := ⟨mul_comm⟩
theorem add_cancel (a b : GF) : a + (a + b) = b := by rw [← add_assoc, add_self, zero_add]
theorem eq_of_add {a b : GF} (h : a + b = 0) : a = b := by
 have := congrArg (a + ·) h
 simp only [add_cancel, add_zero] at this
 exact this.symm
def inv (a : GF) : GF := ⟨giN a.1, gpN_lt a.2 254⟩
theorem mul_inv {a : GF} (h : a ≠ 0) : a * inv a = 1 := ext (gmN_giN a.2 fun e => h (ext e))
theorem mul_eq_zero {a b : GF} (h : a * b = 0) : a = 0 ∨ b = 0 := by
 by_cases ha : a = 0
 · exact .inl ha
 · right
   have := congrArg (inv a * ·) h
   simp only [mul_zero] at this
   rw [← mul_assoc, mul_comm (inv a), mul_inv ha, one_mul] at this
   exact this
def pow (a : GF) : Nat → GF
 | 0 => 1
 | k + 1 => pow a k * a
theorem pow_val (a : GF) : ∀ k, (pow a k).1 = gpN a.1 k
 | 0 => rfl
 | k + 1 => by show gmN (pow a k).1 a.1 = _; rw [pow_val a k]; rfl
theorem pow_add (a : GF) (m n : Nat) : pow a (m + n) = pow a m * pow a n := ext (by rw [mul_val, pow_val, pow_val, pow_val, gpN_add a.2])
end GF
open GF
def pv : List GF → GF → GF
 | [], _ => 0
 | c :: p, x => c + x * pv p x
theorem pv_append (x : GF) : ∀ p q : List GF, pv (p ++ q) x = pv p x + pow x p.length * pv q x
 | [], q => by simp [pv, pow, one_mul, zero_add]
 | c :: p, q => by
   rw [List.cons_append, pv, pv, pv_append x p q, List.length_cons, pow, mul_add, add_assoc]
   congr 2
   ac_rfl
theorem pv_zeros (x : GF) : ∀ n, pv (List.replicate n 0) x = 0
 | 0 => rfl
 | n + 1 => by rw [List.replicate_succ, pv, pv_zeros x n, mul_zero, zero_add]
theorem pv_set (x c : GF) : ∀ (p : List GF) (j : Nat), j < p.length → pv (p.set j c) x = pv p x + pow x j * (p.getD j 0 + c)
 | [], _, h => by simp at h
 | d :: p, 0, _ => by
   simp only [List.set_cons_zero, pv, pow, one_mul, List.getD_cons_zero]
   rw [show d + x * pv p x + (d + c) = (d + (d + c)) + x * pv p x by ac_rfl, add_cancel]
 | d :: p, j + 1, h => by
   simp only [List.set_cons_succ, pv, pow, List.getD_cons_succ]
   rw [pv_set x c p j (by simpa using h), mul_add, ← add_assoc]
   congr 1
   ac_rfl
def addAt : Nat → List GF → List GF → List GF
 | _, [], p => p
 | b, c :: q, p => addAt (b + 1) q (p.set b (p.getD b 0 + c))
theorem addAt_length : ∀ (q : List GF) (b : Nat) (p : List GF), (addAt b q p).length = p.length
 | [], _, _ => rfl
 | c :: q, b, p => by rw [addAt, addAt_length q]; simp
theorem pv_addAt (x : GF) : ∀ (q : List GF) (b : Nat) (p : List GF), b + q.length ≤ p.length → pv (addAt b q p) x = pv p x + pow x b * pv q x
 | [], b, p, _ => by rw [addAt, pv, mul_zero, add_zero]
 | c :: q, b, p, h => by
   simp only [List.length_cons] at h
   rw [addAt, pv_addAt x q (b + 1) _ (by simp; omega), pv_set x _ p b (by omega), add_cancel, pv, mul_add, ← add_assoc]
   congr 1
   rw [pow]; ac_rfl
theorem addAt_get : ∀ (q : List GF) (b : Nat) (p : List GF) (j : Nat), b + q.length ≤ p.length → (addAt b q p).getD j 0 = p.getD j 0 + (if b ≤ j ∧ j < b + q.length then q.getD (j - b) 0 else 0)
 | [], b, p, j, _ => by
   rw [addAt, if_neg (by simp), add_zero]
 | c :: q, b, p, j, h => by
   simp only [List.length_cons] at h ⊢
   rw [addAt, addAt_get q (b + 1) _ j (by simp; omega)]
   by_cases hj : j = b
   · subst hj
     rw [if_neg (by omega), if_pos (by omega), Nat.sub_self, add_zero]
     simp [List.getD_eq_getElem?_getD, List.getElem?_set, show j < p.length by omega]
   · have e : (p.set b (p.getD b 0 + c)).getD j 0 = p.getD j 0 := by
       simp [List.getD_eq_getElem?_getD, List.getElem?_set, show ¬ b = j from fun e => hj e.symm]
     rw [e]
     by_cases h2 : b + 1 ≤ j ∧ j < b + 1 + q.length
     · rw [if_pos h2, if_pos (by omega), show j - b = (j - (b + 1)) + 1 by omega, List.getD_cons_succ]
     · rw [if_neg h2, if_neg (by omega)]
def nrm (p : List GF) : List GF := (p.reverse.dropWhile (fun c => decide (c = 0))).reverse
theorem nrm_nil : nrm [] = [] := rfl
theorem nrm_snoc (p : List GF) (c : GF) : nrm (p ++ [c]) = if c = 0 then nrm p else p ++ [c] := by
 unfold nrm
 rw [List.reverse_append, List.reverse_singleton, List.singleton_append, List.dropWhile_cons]
 by_cases h : c = 0
 · simp [h]
 · simp [h]
theorem nrm_spec : ∀ (n : Nat) (p : List GF), p.length = n → ∃ m, p = nrm p ++ List.replicate m 0 ∧ (nrm p).length + m = n
 | 0, p, h => by
   obtain rfl := List.eq_nil_of_length_eq_zero h
   exact ⟨0, by simp [nrm_nil], by simp [nrm_nil]⟩
 | n + 1, p, h => by
   rcases List.eq_nil_or_concat p with rfl | ⟨q, c, rfl⟩
   · simp at h
   · rw [List.concat_eq_append] at h ⊢
     have hq : q.length = n := by simpa using h
     rw [nrm_snoc]
     by_cases hc : c = 0
     · obtain ⟨m, h1, h2⟩ := nrm_spec n q hq
       refine ⟨m + 1, ?_, by rw [if_pos hc]; omega⟩
       rw [if_pos hc, List.replicate_succ', ← List.append_assoc, ← h1, hc]
     · rw [if_neg hc]
       exact ⟨0, by simp, by simp [hq]⟩
theorem nrm_pv (p : List GF) (x : GF) : pv (nrm p) x = pv p x := by
 obtain ⟨m, h1, _⟩ := nrm_spec _ p rfl
 conv => rhs; rw [h1]
 rw [pv_append, pv_zeros, mul_zero, add_zero]
theorem nrm_le (p : List GF) : (nrm p).length ≤ p.length := by
 obtain ⟨m, _, h⟩ := nrm_spec _ p rfl
 omega
theorem nrm_take (p : List GF) : p.take (nrm p).length = nrm p := by
 obtain ⟨m, h1, _⟩ := nrm_spec _ p rfl
 conv => lhs; rw [h1]
 rw [List.take_append_of_le_length (by have : (nrm (nrm p ++ List.replicate m 0)).length ≤ _ := Nat.le_of_eq (by rw [← h1]); exact this), ← h1, List.take_length]
theorem nrm_get (p : List GF) (j : Nat) : (nrm p).getD j 0 = p.getD j 0 := by
 obtain ⟨m, h1, _⟩ := nrm_spec _ p rfl
 conv => rhs; rw [h1]
 simp only [List.getD_eq_getElem?_getD, List.getElem?_append]
 by_cases h : j < (nrm p).length
 · rw [if_pos h]
 · rw [if_neg h, List.getElem?_eq_none (by omega), List.getElem?_replicate]
   split <;> rfl
def syn (a : GF) : List GF → List GF
 | [] => []
 | [_] => []
 | _ :: d :: r => pv (d :: r) a :: syn a (d :: r)
theorem syn_length (a : GF) : ∀ p : List GF, (syn a p).length = p.length - 1
 | [] => rfl
 | [_] => rfl
 | _ :: d :: r => by rw [syn, List.length_cons, syn_length a (d :: r)]; simp
theorem syn_pv (a x : GF) : ∀ p : List GF, pv p x = pv p a + (x + a) * pv (syn a p) x
 | [] => by simp [pv, syn, mul_zero, add_zero]
 | [c] => by simp [pv, syn, mul_zero, add_zero]
 | c :: d :: r => by
   have ih := syn_pv a x (d :: r)
   show c + x * pv (d :: r) x = c + a * pv (d :: r) a + (x + a) * (pv (d :: r) a + x * pv (syn a (d :: r)) x)
   rw [ih]
   generalize pv (d :: r) a = v
   generalize pv (syn a (d :: r)) x = q
   simp only [mul_add, add_mul]
   rw [show c + a * v + (x * v + a * v + (x * (x * q) + a * (x * q))) = (a * v + a * v) + (c + (x * v + (x * (x * q) + x * (a * q)))) by ac_rfl, add_self, zero_add]
theorem syn_zero (a : GF) : ∀ p : List GF, (∀ c ∈ syn a p, c = 0) → pv p a = 0 → ∀ c ∈ p, c = 0
 | [], _, _ => by simp
 | [c], _, h => by
   rw [pv, pv, mul_zero, add_zero] at h
   simpa using h
 | c :: d :: r, h, h0 => by
   rw [syn] at h
   have hd : pv (d :: r) a = 0 := h _ List.mem_cons_self
   have ih := syn_zero a (d :: r) (fun y hy => h y (List.mem_cons_of_mem _ hy)) hd
   rw [pv, hd, mul_zero, add_zero] at h0
   intro y hy
   rcases List.mem_cons.1 hy with rfl | hy
   · exact h0
   · exact ih y hy
theorem roots_zero : ∀ (pts p : List GF), pts.Nodup → p.length ≤ pts.length → (∀ x ∈ pts, pv p x = 0) → ∀ c ∈ p, c = 0
 | [], p, _, h, _ => by
   obtain rfl := List.eq_nil_of_length_eq_zero (Nat.le_zero.1 h)
   simp
 | a :: t, p, hn, hl, hr => by
   obtain ⟨h1, h2⟩ := List.nodup_cons.1 hn
   have ha := hr a List.mem_cons_self
   refine syn_zero a p (roots_zero t (syn a p) h2 (by rw [syn_length]; simp at hl; omega) fun x hx => ?_) ha
   have hx0 := hr x (List.mem_cons_of_mem _ hx)
   rw [syn_pv a x p, ha, zero_add] at hx0
   rcases GF.mul_eq_zero hx0 with e | e
   · exact absurd (eq_of_add e) fun e => h1 (e ▸ hx)
   · exact e
theorem pv_zip (x : GF) : ∀ p q : List GF, p.length = q.length → pv (List.zipWith (· + ·) p q) x = pv p x + pv q x
 | [], [], _ => by simp [pv, add_zero]
 | a :: p, b :: q, h => by
   rw [List.zipWith_cons_cons, pv, pv, pv, pv_zip x p q (by simpa using h), mul_add]; ac_rfl
 | [], _ :: _, h => by simp at h
 | _ :: _, [], h => by simp at h
theorem zip_zero : ∀ p q : List GF, p.length = q.length → (∀ c ∈ List.zipWith (· + ·) p q, c = 0) → p = q
 | [], [], _, _ => rfl
 | a :: p, b :: q, h, hz => by
   rw [List.zipWith_cons_cons] at hz
   rw [eq_of_add (hz _ List.mem_cons_self), zip_zero p q (by simpa using h) fun c hc => hz c (List.mem_cons_of_mem _ hc)]
 | [], _ :: _, h, _ => by simp at h
 | _ :: _, [], h, _ => by simp at h
theorem pv_inj {pts p q : List GF} (hn : pts.Nodup) (hl : p.length = q.length) (hp : p.length ≤ pts.length) (h : ∀ x ∈ pts, pv p x = pv q x) : p = q :=
 zip_zero p q hl (roots_zero pts _ hn (by simp [hl]; omega) fun x hx => by rw [pv_zip x p q hl, h x hx, add_self])
def GF.of (n : Nat) (h : n < 256) : GF := ⟨n, h⟩
def allGF : List GF := List.ofFn fun i : Fin 256 => GF.of i.1 i.2
theorem allGF_nodup : allGF.Nodup := by
 unfold allGF
 rw [List.nodup_iff_pairwise_ne, List.pairwise_iff_getElem]
 intro i j hi hj hij e
 rw [List.getElem_ofFn, List.getElem_ofFn] at e
 have : i = j := congrArg GF.val e
 omega
theorem allGF_length : allGF.length = 256 := List.length_ofFn
theorem pv_all {p q : List GF} (hl : p.length = q.length) (hp : p.length ≤ 256) (h : ∀ x, pv p x = pv q x) : p = q :=
 pv_inj allGF_nodup hl (by rw [allGF_length]; exact hp) fun x _ => h x
def mulL (r : GF) (g : List GF) : List GF := addAt 0 (g.map (r * ·)) (0 :: g)
theorem pv_map (a x : GF) : ∀ g : List GF, pv (g.map (a * ·)) x = a * pv g x
 | [] => by simp [pv, mul_zero]
 | c :: g => by rw [List.map_cons, pv, pv_map a x g, pv, mul_add]; congr 1; ac_rfl
theorem mulL_pv (r x : GF) (g : List GF) : pv (mulL r g) x = (r + x) * pv g x := by
 rw [mulL, pv_addAt x _ 0 _ (by simp), pow, one_mul, pv_map, pv, zero_add, add_mul, add_comm]
theorem mulL_length (r : GF) (g : List GF) : (mulL r g).length = g.length + 1 := by rw [mulL, addAt_length]; simp
theorem mulL_top (r : GF) (g : List GF) : (mulL r g).getD g.length 0 = (0 :: g).getD g.length 0 := by
 rw [mulL, addAt_get _ _ _ _ (by simp), if_neg (by simp), add_zero]
def genP (rs : List GF) : List GF := rs.foldl (fun g r => mulL r g) [1]
end Go.Proofs.YtkndgkbgbmhjoaaGreatDoor.Gw
namespace Go.Proofs.YtkndgkbgbmhjoaaGreatDoor.Gw
open Go GF
set_option linter.unusedSimpArgs false
set_option linter.unusedVariables false
def bi (p : List GF) : List Int := p.map fun a => ((a.1 : Nat) : Int)
@[simp] theorem bi_length (p : List GF) : (bi p).length = p.length := by simp [bi]
theorem bi_append (p q : List GF) : bi (p ++ q) = bi p ++ bi q := by simp [bi]
theorem bi_zeros (n : Nat) : List.replicate n (0 : Int) = bi (List.replicate n 0) := by simp [bi]
theorem bi_take (n : Nat) (p : List GF) : (bi p).take n = bi (p.take n) := by simp [bi, List.map_take]
theorem bi_drop (n : Nat) (p : List GF) : (bi p).drop n = bi (p.drop n) := by simp [bi, List.map_drop]
theorem bi_at (p : List GF) (j : Nat) : at_ 0 (bi p) (j : Int) = (((p.getD j 0).1 : Nat) : Int) := by
 simp only [at_, Int.toNat_natCast, List.getD_eq_getElem?_getD, bi, List.getElem?_map]
 cases p[j]? <;> rfl
theorem getD_lt {p : List GF} {j : Nat} (h : j < p.length) : p.getD j 0 = p[j] := by simp [List.getD_eq_getElem?_getD, h]
theorem bi_set (p : List GF) (j : Nat) (c : GF) : (bi p).set j ((c.1 : Nat) : Int) = bi (p.set j c) := by simp [bi, List.map_set]
theorem bi_byts (p : List GF) : byts (bi p) = true := by
 rw [byts, List.all_eq_true]
 intro x hx
 obtain ⟨a, _, rfl⟩ := List.mem_map.1 hx
 exact byt_spec.2 ⟨by omega, by have := a.2; omega⟩
theorem byts_bi : ∀ {l : List Int}, byts l = true → ∃ p, l = bi p
 | [], _ => ⟨[], rfl⟩
 | a :: l, h => by
   rw [byts, List.all_cons, Bool.and_eq_true] at h
   obtain ⟨p, rfl⟩ := byts_bi (l := l) h.2
   obtain ⟨n, rfl, hn⟩ := byt_nat h.1
   exact ⟨⟨n, hn⟩ :: p, rfl⟩
theorem gf_byt (a : GF) : byt ((a.1 : Nat) : Int) = true := byt_spec.2 ⟨by omega, by have := a.2; omega⟩
theorem gm_val (a b : GF) : gm ((a.1 : Nat) : Int) ((b.1 : Nat) : Int) = (((a * b).1 : Nat) : Int) := by simp [gm, mul_val]
theorem xor_val (a b : GF) : bits .xor .u8 ((a.1 : Nat) : Int) ((b.1 : Nat) : Int) = (((a + b).1 : Nat) : Int) := by
 have h1 := a.2
 have h2 := b.2
 have hx : a.1 ^^^ b.1 < 2 ^ 8 := Nat.xor_lt_two_pow (by omega) (by omega)
 have e1 : (BitVec.ofInt 8 (a.1 : Int)).toNat = a.1 := by rw [BitVec.ofInt_natCast, BitVec.toNat_ofNat]; exact Nat.mod_eq_of_lt (by omega)
 have e2 : (BitVec.ofInt 8 (b.1 : Int)).toNat = b.1 := by rw [BitVec.ofInt_natCast, BitVec.toNat_ofNat]; exact Nat.mod_eq_of_lt (by omega)
 show IntKind.u8.wrap ((BitVec.ofInt 8 (a.1 : Int) ^^^ BitVec.ofInt 8 (b.1 : Int)).toNat : Int) = _
 rw [BitVec.toNat_xor, e1, e2, u8_id (by omega) (by omega)]; rfl
theorem fmul_ok (a b : GF) : field_Field_Mul.f ((a.1 : Nat) : Int) ((b.1 : Nat) : Int) = some (((a * b).1 : Nat) : Int) := by
 unfold field_Field_Mul.f grd; rw [gf_byt, gf_byt, gm_val]; rfl
theorem fpairs_ok (p q : List GF) (h : p.length ≤ 140737488355328) : field_Field_Pairs.f (bi p) (bi q) = some (bi (List.zipWith (· * ·) p q)) := by
 unfold field_Field_Pairs.f grd
 rw [bi_byts, bi_byts, bi_length, decide_eq_true h]
 have : List.zipWith gm (bi p) (bi q) = bi (List.zipWith (· * ·) p q) := by
   simp only [bi, List.zipWith_map, List.map_zipWith, gm_val]
 rw [this]; rfl
def al : GF := ⟨2, by decide⟩
theorem point_ok {n : Nat} (h : n < 4611686018427387904) : code_Point.f (n : Int) = some (((pow al n).1 : Nat) : Int) := by
 unfold code_Point.f field_Field_Pow.f grd gpw
 rw [show byt 2 = true from rfl, decide_eq_true (by omega), if_neg (by omega)]
 have : ((n : Int) % 255).toNat = n % 255 := by omega
 simp only [Bool.and_self, cond_true, Option.bind_some, this]
 rw [pow_val]
 have := gpN_mod (a := 2) (by decide) (by decide) n
 simp only [show (2 : Int).toNat = 2 from rfl]
 rw [this]; rfl
theorem deg_l0 (p : List GF) : ∀ (j k : Nat), j ≤ p.length → j < k → p.length < 4611686018427387904 → nrm (p.take j) = nrm p → poly_Deg.l0 k (bi p) ((j : Int) - 1) = some (((nrm p).length : Int) - 1)
 | j, 0, _, h, _, _ => by omega
 | 0, k + 1, _, _, _, he => by
   rw [poly_Deg.l0, bifF (by omega), ← he]; rfl
 | j + 1, k + 1, hj, hk, hb, he => by
   have e1 : ((j + 1 : Nat) : Int) - 1 = (j : Int) := by omega
   have e2 : IntKind.i64.wrap ((j : Int) - 1) = (j : Int) - 1 := i64_id (by omega) (by omega)
   have e3 : p.take (j + 1) = p.take j ++ [p.getD j 0] := by
     rw [List.take_succ_eq_append_getElem hj, getD_lt hj]
   rw [poly_Deg.l0, e1, bifT (by omega), grdT (by rw [bi_length]; omega), bi_at, e2]
   rw [e3, nrm_snoc] at he
   by_cases hc : p.getD j 0 = 0
   · rw [if_pos hc] at he
     rw [hc, bifNF (show (((0 : GF).1 : Nat) : Int) = 0 from rfl)]
     exact deg_l0 p j k (by omega) (by omega) hb he
   · rw [if_neg hc] at he
     rw [bifNT (fun e => hc (GF.ext (by have e' := e; simp only [zero_val]; omega))), ← he]
     simp; omega
theorem deg_ok {p : List GF} {k : Nat} (hk : p.length < k) (hb : p.length < 4611686018427387904) : poly_Deg.f k (bi p) = some (((nrm p).length : Int) - 1) := by
 unfold poly_Deg.f
 rw [bi_length, i64_id (by omega) (by omega)]
 exact deg_l0 p p.length k (Nat.le_refl _) hk hb (by rw [List.take_length])
theorem norm_ok {p : List GF} {k : Nat} (hk : p.length < k) (hb : p.length < 4294967296) : poly_Norm.f k (bi p) = some (bi (nrm p)) := by
 unfold poly_Norm.f
 have hl := nrm_le p
 rw [deg_ok hk (by omega), Option.bind_some, i64_id (by omega) (by omega), grdT (by rw [bi_length]; omega)]
 have e : (((nrm p).length : Int) - 1 + 1).toNat = (nrm p).length := by omega
 rw [e, bi_take, nrm_take, List.drop_zero]
 unfold slices_Clone.f
 rw [grdT (by rw [bi_length]; omega)]; rfl
theorem mul1_ok {n : Nat} (h : n < 1024) : math_bits_Mul.f 1 (n : Int) = some (0, (n : Int)) := by
 have hc : (List.range 1024).all (fun n => decide (math_bits_Mul.f 1 (n : Int) = some (0, (n : Int)))) = true := by decide +kernel
 exact of_decide_eq_true (List.all_eq_true.1 hc n (List.mem_range.2 h))
theorem repeat_l0 (a : Int) (n : Nat) (hn : n < 1024) : ∀ (d k x : Nat) (l : List Int), l.length = n → x + d = n → 0 < x → d < k → l.take x = List.replicate x a → slices_Repeat.l0 k l (x : Int) = some (List.replicate n a)
 | d, 0, _, _, _, _, _, h, _ => by omega
 | d, k + 1, x, l, hl, hd, h0, hk, ht => by
   rw [slices_Repeat.l0]
   by_cases hx : x < n
   · have e1 : ((x : Int)).toNat = x := by omega
     rw [bifT (by omega), grdT (by omega), grdT (by omega), e1]
     have hm : min ((l.take x).drop 0).length (l.length - x) = min x (n - x) := by simp; omega
     rw [hm]
     have e2 : IntKind.i64.wrap ((x : Int) + ((min x (n - x) : Nat) : Int)) = ((x + min x (n - x) : Nat) : Int) := by rw [i64_id (by omega) (by omega)]; omega
     rw [e2]
     have hz : (l.take x).take (l.length - x) = List.replicate (min x (n - x)) a := by
       rw [ht, List.take_replicate, hl, Nat.min_comm]
     refine repeat_l0 a n hn (d - min x (n - x)) k _ _ (by rw [cpy_length _ (by omega), hl]) (by omega) (by omega) (by omega) ?_
     unfold cpy
     rw [List.drop_zero, hz, ht, List.length_replicate, List.replicate_append_replicate]
     rw [List.take_append_of_le_length (by simp)]
     exact List.take_of_length_le (by simp)
   · obtain rfl : d = 0 := by omega
     obtain rfl : x = n := by omega
     rw [bifF (by omega)]
     rw [List.take_of_length_le (by omega)] at ht
     rw [ht]
theorem repeat_ok {a : Int} {n k : Nat} (hn : n < 1024) (hk : n < k) : slices_Repeat.f k [a] (n : Int) = some (List.replicate n a) := by
 unfold slices_Repeat.f
 rw [bifF (by omega), show IntKind.u64.wrap (([a] : List Int).length : Int) = 1 from by rw [u64_id (by simp) (by simp)]; rfl, u64_id (x := (n : Int)) (by omega) (by omega), mul1_ok hn, Option.bind_some]
 rw [bifF (by simp), bifF (by simp only; omega)]
 simp only
 rw [i64_id (by omega) (by omega), grdT (by omega)]
 have e1 : ((n : Int)).toNat = n := by omega
 rw [e1, List.length_replicate]
 cases n with
 | zero =>
   obtain ⟨k, rfl⟩ : ∃ m, k = m + 1 := ⟨k - 1, by omega⟩
   rw [slices_Repeat.l0]; rfl
 | succ n =>
   have hm : min ([a] : List Int).length (n + 1) = 1 := by simp
   rw [hm]
   refine repeat_l0 a (n + 1) hn n k 1 _ (by simp [cpy]) (by omega) (by omega) (by omega) ?_
   simp [cpy]
theorem zip_rep (a : GF) : ∀ q : List GF, List.zipWith (· * ·) (List.replicate q.length a) q = q.map (a * ·)
 | [] => rfl
 | c :: q => by rw [List.length_cons, List.replicate_succ, List.zipWith_cons_cons, zip_rep a q, List.map_cons]
theorem each_ok {a : GF} {q : List GF} {k : Nat} (hn : q.length < 1024) (hk : q.length < k) : field_Field_Each.f k ((a.1 : Nat) : Int) (bi q) = some (bi (q.map (a * ·))) := by
 unfold field_Field_Each.f
 rw [bi_length, repeat_ok hn hk, Option.bind_some]
 have e : List.replicate q.length (((a.1 : Nat) : Int)) = bi (List.replicate q.length a) := by simp [bi]
 rw [e, fpairs_ok _ _ (by simp; omega), zip_rep]; rfl
theorem mul_l1 (p q c : List GF) (i : Nat) : ∀ (d j k : Nat) (L : List GF), j + d = c.length → d < k → i + c.length ≤ L.length → L.length < 4294967296 →
   ∃ k', k = k' + d + 1 ∧ poly_Mul.l1 k (bi p) (bi q) (i : Int) (bi c) (bi L) (j : Int) = poly_Mul.l0 k' (bi p) (bi q) (bi (addAt (i + j) (c.drop j) L)) (IntKind.i64.wrap ((i : Int) - 1))
 | d, j, 0, L, _, h, _, _ => by omega
 | 0, j, k + 1, L, hd, hk, hL, hb => by
   refine ⟨k, by omega, ?_⟩
   rw [poly_Mul.l1, bifF (by rw [bi_length]; omega), List.drop_of_length_le (by omega)]; rfl
 | d + 1, j, k + 1, L, hd, hk, hL, hb => by
   have e1 : IntKind.i64.wrap ((i : Int) + (j : Int)) = ((i + j : Nat) : Int) := by rw [i64_id (by omega) (by omega)]; omega
   have e2 : IntKind.i64.wrap ((j : Int) + 1) = ((j + 1 : Nat) : Int) := wrap1 (by omega)
   obtain ⟨k', h1, h2⟩ := mul_l1 p q c i d (j + 1) k (L.set (i + j) (L.getD (i + j) 0 + c.getD j 0)) (by omega) (by omega) (by simp; omega) (by simpa using hb)
   refine ⟨k', by omega, ?_⟩
   rw [poly_Mul.l1, bifT (by rw [bi_length]; omega), grdT (by rw [bi_length]; omega), e1, grdT (by rw [bi_length]; omega), grdT (by rw [bi_length]; omega), e2, bi_at, bi_at, xor_val, Int.toNat_natCast, bi_set, h2]
   have hj : j < c.length := by omega
   have e3 : c.drop j = c.getD j 0 :: c.drop (j + 1) := by
     rw [List.drop_eq_getElem_cons hj, getD_lt hj]
   rw [e3, addAt]; rfl
theorem mul_l0 (p q : List GF) (hq : q.length < 1024) : ∀ (j k : Nat) (L : List GF), j ≤ p.length → p.length + q.length ≤ L.length → L.length + 1 + j * (q.length + 3) < k → L.length < 4294967296 →
   ∃ L', L'.length = L.length ∧ (∀ x, pv L' x = pv L x + pv (p.take j) x * pv q x) ∧ poly_Mul.l0 k (bi p) (bi q) (bi L) ((j : Int) - 1) = some (bi (nrm L'))
 | j, 0, L, _, _, h, _ => by omega
 | 0, k + 1, L, hj, hL, hk, hb => by
   refine ⟨L, rfl, fun x => by rw [List.take_zero, pv, zero_mul, add_zero], ?_⟩
   rw [poly_Mul.l0, bifF (by omega), norm_ok (by omega) hb]; rfl
 | j + 1, k + 1, L, hj, hL, hk, hb => by
   have hmul : (j + 1) * (q.length + 3) = j * (q.length + 3) + q.length + 3 := by rw [Nat.add_mul]; omega
   have e1 : ((j + 1 : Nat) : Int) - 1 = (j : Int) := by omega
   have e2 : IntKind.i64.wrap ((j : Int) - 1) = (j : Int) - 1 := i64_id (by omega) (by omega)
   have e3 : p.take (j + 1) = p.take j ++ [p.getD j 0] := by
     rw [List.take_succ_eq_append_getElem hj, getD_lt hj]
   have hjl : (p.take j).length = j := by simp; omega
   rw [poly_Mul.l0, e1, bifT (by omega), grdT (by rw [bi_length]; omega), bi_at]
   by_cases hc : p.getD j 0 = 0
   · rw [hc, bifNF (show (((0 : GF).1 : Nat) : Int) = 0 from rfl), e2]
     obtain ⟨L', h1, h2, h3⟩ := mul_l0 p q hq j k L (by omega) hL (by omega) hb
     refine ⟨L', h1, fun x => ?_, h3⟩
     rw [h2 x, e3, hc, pv_append, pv, pv, mul_zero, add_zero, mul_zero, add_zero]
   · rw [bifNT (fun e => hc (GF.ext (by have e' := e; simp only [zero_val]; omega))), each_ok hq (by omega), Option.bind_some]
     obtain ⟨k', h1, h2⟩ := mul_l1 p q (q.map (p.getD j 0 * ·)) j (q.map (p.getD j 0 * ·)).length 0 k L (by simp) (by simp; omega) (by simp; omega) hb
     simp only [List.length_map] at h1
     rw [show ((0 : Nat) : Int) = 0 from rfl] at h2
     rw [h2, e2, Nat.add_zero, List.drop_zero]
     obtain ⟨L', h4, h5, h6⟩ := mul_l0 p q hq j k' (addAt j (q.map (p.getD j 0 * ·)) L) (by omega) (by rw [addAt_length]; exact hL) (by rw [addAt_length]; omega) (by rw [addAt_length]; exact hb)
     refine ⟨L', by rw [h4, addAt_length], fun x => ?_, h6⟩
     rw [h5 x, pv_addAt x _ _ _ (by simp; omega), pv_map, e3, pv_append, hjl, pv, pv, mul_zero, add_zero, add_mul, GF.add_assoc]
     congr 1
     rw [GF.add_comm]
     congr 1
     rw [GF.mul_assoc]
theorem mul_ok {p q : List GF} {k : Nat} (hq : q.length < 1024) (hp : p.length < 1024) (hk : p.length + q.length + 1 + p.length * (q.length + 3) < k) :
   ∃ L, L.length = p.length + q.length ∧ (∀ x, pv L x = pv p x * pv q x) ∧ poly_Mul.f k (bi p) (bi q) = some (bi (nrm L)) := by
 have e1 : IntKind.i64.wrap (((bi p).length : Int) + ((bi q).length : Int)) = ((p.length + q.length : Nat) : Int) := by rw [bi_length, bi_length, i64_id (by omega) (by omega)]; omega
 have e2 : IntKind.i64.wrap (((bi p).length : Int) - 1) = (p.length : Int) - 1 := by rw [bi_length]; exact i64_id (by omega) (by omega)
 obtain ⟨L, h1, h2, h3⟩ := mul_l0 p q hq p.length k (List.replicate (p.length + q.length) 0) (Nat.le_refl _) (by simp) (by simpa using hk) (by simp; omega)
 refine ⟨L, by simpa using h1, fun x => by rw [h2 x, pv_zeros, GF.zero_add, List.take_length], ?_⟩
 unfold poly_Mul.f
 rw [e1, e2, grdT (by omega), Int.toNat_natCast, bi_zeros]
 exact h3
structure Cd (N K B : Nat) : Prop where
 k1 : 1 ≤ K
 kn : K < N
 n : N ≤ 255
 b : B ≤ 254
theorem right_ok {N K B : Nat} (h : Cd N K B) : code_Right.f ((N : Int), (K : Int), (B : Int)) = some 0 := by
 obtain ⟨h1, h2, h3, h4⟩ := h
 unfold code_Right.f
 rw [bifF (by simp only; omega), bifF (by simp only; omega), bifF (by simp only; omega), bifF (by simp only; omega), bifF (by simp only; omega)]
theorem space_ok {N K B : Nat} (h : Cd N K B) : code_Space.f ((N : Int), (K : Int), (B : Int)) = some ((N - K : Nat) : Int) := by
 unfold code_Space.f
 obtain ⟨h1, h2, h3, h4⟩ := id h
 simp only
 rw [right_ok h, Option.bind_some, bifNF rfl, i64_id (by omega) (by omega)]
 congr 1; omega
def rts (B s : Nat) : List GF := (List.range s).map fun i => pow al (B + i)
theorem rts_length (B s : Nat) : (rts B s).length = s := by simp [rts]
theorem rts_succ (B s : Nat) : rts B (s + 1) = rts B s ++ [pow al (B + s)] := by simp [rts, List.range_succ]
theorem some_l0 (B s : Nat) (hs : s < 4294967296) : ∀ (d i k : Nat), i + d = s → d < k → code_some.l0 k (s : Int) 2 (bi (rts B i)) (((pow al (B + i)).1 : Nat) : Int) = some (bi (rts B s))
 | d, i, 0, _, h => by omega
 | 0, i, k + 1, hd, hk => by
   obtain rfl : i = s := by omega
   rw [code_some.l0, bifT (by rw [bi_length, rts_length])]
 | d + 1, i, k + 1, hd, hk => by
   rw [code_some.l0, bifF (by rw [bi_length, rts_length]; omega), grdT (by rw [bi_length, rts_length]; simp; omega)]
   rw [show (2 : Int) = ((al.1 : Nat) : Int) from rfl, fmul_ok, Option.bind_some]
   have e : bi (rts B i) ++ [(((pow al (B + i)).1 : Nat) : Int)] = bi (rts B (i + 1)) := by rw [rts_succ, bi_append]; rfl
   rw [e, show pow al (B + i) * al = pow al (B + (i + 1)) from rfl]
   exact some_l0 B s hs d (i + 1) k (by omega) (by omega)
theorem roots_ok {N K B k : Nat} (h : Cd N K B) (hk : N < k) : code_Roots.f k ((N : Int), (K : Int), (B : Int)) = some (bi (rts B (N - K))) := by
 unfold code_Roots.f
 obtain ⟨h1, h2, h3, h4⟩ := id h
 simp only
 rw [right_ok h, Option.bind_some, bifNF rfl, space_ok h, Option.bind_some, point_ok (by omega), Option.bind_some]
 unfold code_some.f
 rw [grdT (by omega), show List.replicate (0 : Int).toNat (0 : Int) = bi (rts B 0) from rfl]
 have := some_l0 B (N - K) (by omega) (N - K) 0 k (by omega) (by omega)
 rw [Nat.add_zero] at this
 rw [this]; rfl
theorem al_ne : al ≠ 0 := by decide
theorem one_ne : (1 : GF) ≠ 0 := by decide
theorem pow_ne {a : GF} (h : a ≠ 0) : ∀ n, pow a n ≠ 0
 | 0 => one_ne
 | n + 1 => fun e => (GF.mul_eq_zero e).elim (pow_ne h n) h
theorem al_order {d : Nat} (h0 : 0 < d) (h : d < 255) : pow al d ≠ 1 := by
 have hc : (List.range 255).all (fun d => Nat.beq d 0 || !(Nat.beq (gpN 2 d) 1)) = true := by decide +kernel
 have := List.all_eq_true.1 hc d (List.mem_range.2 h)
 intro e
 have e' : gpN 2 d = 1 := by
   have h1 := pow_val al d
   rw [e] at h1
   exact h1.symm
 rw [e'] at this
 simp at this
 omega
theorem pow_inj {m n : Nat} (h : m < n) (hd : n - m < 255) : pow al m ≠ pow al n := by
 intro e
 rw [show n = m + (n - m) by omega, pow_add] at e
 have h2 : inv (pow al m) * pow al m = inv (pow al m) * (pow al m * pow al (n - m)) := congrArg (inv (pow al m) * ·) e
 rw [← GF.mul_assoc, GF.mul_comm (inv _), mul_inv (pow_ne al_ne m), GF.one_mul] at h2
 exact al_order (by omega) hd h2.symm
theorem rts_nodup {B s : Nat} (hs : s ≤ 255) : (rts B s).Nodup := by
 unfold rts
 rw [List.nodup_iff_pairwise_ne, List.pairwise_map, List.pairwise_iff_getElem]
 intro i j hi hj hij
 simp only [List.getElem_range, List.length_range] at hi hj ⊢
 exact pow_inj (by omega) (by omega)
def Mon (n : Nat) (g : List GF) : Prop := g.length = n + 1 ∧ g.getD n 0 = 1
theorem mon_snoc {n : Nat} {g : List GF} (h : Mon n g) : g = g.take n ++ [1] := by
 obtain ⟨h1, h2⟩ := h
 have hn : n < g.length := by omega
 rw [getD_lt hn] at h2
 conv => lhs; rw [← List.take_length (l := g), h1, List.take_succ_eq_append_getElem hn, h2]
theorem nrm_mon {n : Nat} {g : List GF} (h : Mon n g) : nrm g = g := by
 rw [mon_snoc h, nrm_snoc, if_neg one_ne]
theorem mulL_mon {n : Nat} {g : List GF} (r : GF) (h : Mon n g) : Mon (n + 1) (mulL r g) := by
 obtain ⟨h1, h2⟩ := h
 refine ⟨by rw [mulL_length, h1], ?_⟩
 have := mulL_top r g
 rw [h1, List.getD_cons_succ, h2] at this
 exact this
theorem mulL_ok {n k : Nat} {g : List GF} (r : GF) (h : Mon n g) (hn : n ≤ 253) (hk : 2000 < k) : poly_Mul.f k (bi g) [((r.1 : Nat) : Int), 1] = some (bi (mulL r g)) := by
 obtain ⟨L, h1, h2, h3⟩ := mul_ok (p := g) (q := [r, 1]) (k := k) (by simp) (by rw [h.1]; omega) (by rw [h.1]; simp; omega)
 rw [show ([((r.1 : Nat) : Int), 1] : List Int) = bi [r, 1] from rfl, h3]
 have e : L = mulL r g ++ [0] := pv_all (by rw [h1, List.length_append, mulL_length]; rfl) (by rw [h1, h.1]; simp; omega) fun x => by
   rw [h2, pv_append, mulL_pv]
   simp only [pv, GF.mul_zero, GF.add_zero, GF.mul_one]
   exact GF.mul_comm _ _
 rw [e, nrm_snoc, if_pos rfl, nrm_mon (mulL_mon r h)]
theorem from_l0 (rs : List GF) (hr : rs.length ≤ 254) : ∀ (d i k : Nat) (g : List GF), i + d = rs.length → Mon i g → 2000 + d < k →
   value_From.l0 k (bi rs) (bi g) (i : Int) = some (bi ((rs.drop i).foldl (fun g r => mulL r g) g))
 | d, i, 0, _, _, _, h => by omega
 | 0, i, k + 1, g, hd, hm, hk => by
   rw [value_From.l0, bifF (by rw [bi_length]; omega), List.drop_of_length_le (by omega)]; rfl
 | d + 1, i, k + 1, g, hd, hm, hk => by
   have hi : i < rs.length := by omega
   rw [value_From.l0, bifT (by rw [bi_length]; omega), grdT (by rw [bi_length]; omega), bi_at, mulL_ok _ hm (by omega) (by omega), Option.bind_some, wrap1 (by omega)]
   rw [from_l0 rs hr d (i + 1) k _ (by omega) (mulL_mon _ hm) (by omega)]
   have e3 : rs.drop i = rs.getD i 0 :: rs.drop (i + 1) := by rw [List.drop_eq_getElem_cons hi, getD_lt hi]
   rw [e3]; rfl
theorem from_ok {rs : List GF} {k : Nat} (hr : rs.length ≤ 254) (hk : 2300 < k) : value_From.f k (bi rs) = some (bi (genP rs)) := by
 unfold value_From.f
 have := from_l0 rs hr rs.length 0 k [1] (by omega) ⟨rfl, rfl⟩ (by omega)
 rw [show ([1] : List Int) = bi [1] from rfl, show (0 : Int) = ((0 : Nat) : Int) from rfl, this, List.drop_zero]; rfl
theorem fold_mon : ∀ (rs : List GF) (n : Nat) (g : List GF), Mon n g → Mon (n + rs.length) (rs.foldl (fun g r => mulL r g) g)
 | [], n, g, h => h
 | r :: rs, n, g, h => by
   have := fold_mon rs (n + 1) (mulL r g) (mulL_mon r h)
   rw [List.length_cons, show n + (rs.length + 1) = n + 1 + rs.length by omega]; exact this
theorem genP_mon (rs : List GF) : Mon rs.length (genP rs) := by
 have := fold_mon rs 0 [1] ⟨rfl, rfl⟩
 rw [Nat.zero_add] at this; exact this
theorem fold_zero (x : GF) : ∀ (rs : List GF) (g : List GF), pv g x = 0 ∨ x ∈ rs → pv (rs.foldl (fun g r => mulL r g) g) x = 0
 | [], g, h => h.elim id fun h => by simp at h
 | r :: rs, g, h => by
   refine fold_zero x rs (mulL r g) ?_
   rcases h with h | h
   · exact .inl (by rw [mulL_pv, h, GF.mul_zero])
   · rcases List.mem_cons.1 h with rfl | h
     · exact .inl (by rw [mulL_pv, GF.add_self, GF.zero_mul])
     · exact .inr h
theorem genP_root {rs : List GF} {x : GF} (h : x ∈ rs) : pv (genP rs) x = 0 := fold_zero x rs [1] (.inr h)
theorem nrm_lt {p : List GF} (h0 : 0 < p.length) (h : p.getD (p.length - 1) 0 = 0) : (nrm p).length < p.length := by
 rcases List.eq_nil_or_concat p with rfl | ⟨q, c, rfl⟩
 · simp at h0
 · rw [List.concat_eq_append] at h ⊢
   have : c = 0 := by simpa [List.getD_eq_getElem?_getD] using h
   rw [nrm_snoc, if_pos this]
   have := nrm_le q
   simp; omega
theorem div_l1 (g l c : List GF) (s x3 : Nat) (x7 : Int × Bool) (q : List Int) (hs : s < l.length) (hl : l.length < 4294967296) (hc : c.length = s + 1) :
   ∀ (d j k : Nat) (L : List GF), j + d = c.length → d < k → L.length = l.length →
     ∃ k', k = k' + d + 1 ∧ quot_Div.l1 k (bi g) (s : Int) x7 (bi l) q (x3 : Int) (bi c) (bi L) (j : Int) = quot_Div.j1 (quot_Div.l0 k') k' (bi g) (s : Int) x7 (bi l) q (x3 : Int) (bi (addAt (l.length - 1 - s + j) (c.drop j) L))
 | d, j, 0, L, _, h, _ => by omega
 | 0, j, k + 1, L, hd, hk, hL => by
   refine ⟨k, by omega, ?_⟩
   rw [quot_Div.l1, bifF (by rw [bi_length]; omega), List.drop_of_length_le (by omega)]; rfl
 | d + 1, j, k + 1, L, hd, hk, hL => by
   have e1 : IntKind.i64.wrap ((IntKind.i64.wrap ((IntKind.i64.wrap (((bi l).length : Int) - 1)) - (s : Int))) + (j : Int)) = ((l.length - 1 - s + j : Nat) : Int) := by
     rw [bi_length, i64_id (x := (l.length : Int) - 1) (by omega) (by omega), i64_id (x := (l.length : Int) - 1 - (s : Int)) (by omega) (by omega), i64_id (by omega) (by omega)]; omega
   obtain ⟨k', h1, h2⟩ := div_l1 g l c s x3 x7 q hs hl hc d (j + 1) k (L.set (l.length - 1 - s + j) (L.getD (l.length - 1 - s + j) 0 + c.getD j 0)) (by omega) (by omega) (by simpa using hL)
   refine ⟨k', by omega, ?_⟩
   rw [quot_Div.l1, bifT (by rw [bi_length]; omega), grdT (by rw [bi_length]; omega), e1, grdT (by rw [bi_length]; omega), grdT (by rw [bi_length]; omega), wrap1 (by omega), bi_at, bi_at, xor_val, Int.toNat_natCast, bi_set, h2]
   have hj : j < c.length := by omega
   have e3 : c.drop j = c.getD j 0 :: c.drop (j + 1) := by rw [List.drop_eq_getElem_cons hj, getD_lt hj]
   rw [e3, addAt]; rfl
theorem div_l0 {s : Nat} {g : List GF} (hg : Mon s g) (hs : s ≤ 254) : ∀ (n : Nat) (l q : List GF) (k : Nat), l.length ≤ n → l.length < 1024 → q.length < 1024 → l.length ≤ q.length + s → n * (s + 8) + 2000 < k →
   ∃ (R : List GF) (q' : List Int), R.length ≤ s ∧ (∀ x, pv g x = 0 → pv R x = pv l x) ∧ quot_Div.l0 k (bi g) (s : Int) (1, true) (bi l) (bi q) = some (q', bi R, true)
 | n, l, q, 0, _, _, _, _, h => by omega
 | n, l, q, k + 1, hn, hl, hq2, hq, hk => by
   have e0 : IntKind.i64.wrap (((bi l).length : Int) - 1) = (l.length : Int) - 1 := by rw [bi_length]; exact i64_id (by omega) (by omega)
   by_cases hle : l.length ≤ s
   · refine ⟨l, bi (nrm q), hle, fun x _ => rfl, ?_⟩
     rw [quot_Div.l0, e0, bifT (by omega)]
     unfold quot_Div.j0
     rw [norm_ok (by omega) (by omega)]; rfl
   · match n, hn, hk with
     | 0, hn, hk => omega
     | n + 1, hn, hk =>
       have hmul : (n + 1) * (s + 8) = n * (s + 8) + s + 8 := by rw [Nat.add_mul]; omega
       have e1 : (l.length : Int) - 1 = ((l.length - 1 : Nat) : Int) := by omega
       have e2 : IntKind.i64.wrap (((l.length - 1 : Nat) : Int) - (s : Int)) = ((l.length - 1 - s : Nat) : Int) := by rw [i64_id (by omega) (by omega)]; omega
       have e3 : (g.take (s + 1)).drop 0 = g := by rw [List.drop_zero, List.take_of_length_le (by rw [hg.1]; omega)]
       rw [quot_Div.l0, e0, bifF (by omega), e1, grdT (by rw [bi_length]; omega), bi_at, show ((1, true) : Int × Bool).1 = (((1 : GF).1 : Nat) : Int) from rfl, fmul_ok, Option.bind_some, GF.mul_one, e2, grdT (by rw [bi_length]; omega), wrap1 (by omega), grdT (by rw [bi_length, hg.1]; omega), Int.toNat_natCast, bi_take, bi_drop, e3, each_ok (by rw [hg.1]; omega) (by rw [hg.1]; omega), Option.bind_some]
       generalize hc : l.getD (l.length - 1) 0 = t
       obtain ⟨k', h1, h2⟩ := div_l1 g l (g.map (t * ·)) s t.1 (1, true) (bi q) (by omega) (by omega) (by rw [List.length_map, hg.1]) (g.map (t * ·)).length 0 k l (by omega) (by rw [List.length_map, hg.1]; omega) rfl
       rw [show ((0 : Nat) : Int) = 0 from rfl] at h2
       rw [List.length_map, hg.1] at h1
       rw [h2, Nat.add_zero, List.drop_zero]
       generalize hl' : addAt (l.length - 1 - s) (g.map (t * ·)) l = l'
       have hlen : l'.length = l.length := by rw [← hl', addAt_length]
       have htop : l'.getD (l'.length - 1) 0 = 0 := by
         rw [hlen, ← hl', addAt_get _ _ _ _ (by rw [List.length_map, hg.1]; omega), if_pos (by rw [List.length_map, hg.1]; omega), hc, show l.length - 1 - (l.length - 1 - s) = s by omega]
         have : (g.map (t * ·)).getD s 0 = t * g.getD s 0 := by
           have hsl : s < g.length := by rw [hg.1]; omega
           simp [List.getD_eq_getElem?_getD, hsl]
         rw [this, hg.2, GF.mul_one, GF.add_self]
       have hlt := nrm_lt (by omega) htop
       have hval : ∀ x, pv g x = 0 → pv l' x = pv l x := fun x hx => by
         rw [← hl', pv_addAt x _ _ _ (by rw [List.length_map, hg.1]; omega), pv_map, hx, GF.mul_zero, GF.mul_zero, GF.add_zero]
       unfold quot_Div.j1
       rw [deg_ok (by omega) (by omega), Option.bind_some, i64_id (x := ((nrm l').length : Int) - 1 + 1) (by omega) (by omega), grdT (by rw [bi_length]; omega)]
       rw [show (((nrm l').length : Int) - 1 + 1).toNat = (nrm l').length by omega, bi_take, nrm_take]
       rw [bi_set]
       obtain ⟨R, q', r1, r2, r3⟩ := div_l0 hg hs n (nrm l') (q.set (IntKind.i64.wrap ((IntKind.i64.wrap (((bi l).length : Int) - 1)) - (s : Int))).toNat t) k' (by omega) (by omega) (by rw [List.length_set]; omega) (by rw [List.length_set]; omega) (by omega)
       exact ⟨R, q', r1, fun x hx => by rw [r2 x hx, nrm_pv, hval x hx], r3⟩
theorem inv1 : field_Field_Inv.f (((1 : GF).1 : Nat) : Int) = some (1, true) := by
 unfold field_Field_Inv.f grd
 rw [show byt (((1 : GF).1 : Nat) : Int) = true from rfl]
 simp [giN, gpN_one]
theorem mod_ok {s k : Nat} {g a : List GF} (hg : Mon s g) (hs : s ≤ 254) (ha : a.length < 1024) (hk : a.length * (s + 8) + 2000 < k) :
   ∃ R : List GF, R.length ≤ s ∧ (∀ x, pv g x = 0 → pv R x = pv a x) ∧ quot_Mod.f k (bi a) (bi g) = some (bi R, true) := by
 have hna := nrm_le a
 have e2 : IntKind.i64.wrap (((bi (nrm a)).length : Int) - (s : Int)) = ((nrm a).length : Int) - (s : Int) := by rw [bi_length]; exact i64_id (by omega) (by omega)
 have hm : max2 (((nrm a).length : Int) - (s : Int)) 0 = (((nrm a).length - s : Nat) : Int) := by unfold max2; split <;> omega
 have hmul : (nrm a).length * (s + 8) ≤ a.length * (s + 8) := Nat.mul_le_mul_right _ hna
 obtain ⟨R, q', r1, r2, r3⟩ := div_l0 hg hs (nrm a).length (nrm a) (List.replicate ((nrm a).length - s) 0) k (Nat.le_refl _) (by omega) (by rw [List.length_replicate]; omega) (by rw [List.length_replicate]; omega) (by omega)
 refine ⟨R, r1, fun x hx => by rw [r2 x hx, nrm_pv], ?_⟩
 have hdeg : poly_Deg.f k (bi g) = some (s : Int) := by rw [deg_ok (by rw [hg.1]; omega) (by rw [hg.1]; omega), nrm_mon hg, hg.1]; congr 1; omega
 unfold quot_Mod.f quot_Div.f
 rw [hdeg, Option.bind_some, bifF (by omega), grdT (by rw [bi_length, hg.1]; omega), bi_at, hg.2]
 rw [inv1, Option.bind_some, norm_ok (by omega) (by omega), Option.bind_some, e2, hm, grdT (by omega), Int.toNat_natCast, bi_zeros, r3]
 rfl
structure Wd (N K B : Nat) (m W : List GF) : Prop where
 len : W.length = N
 msg : W.drop (N - K) = m
 root : ∀ x ∈ rts B (N - K), pv W x = 0
theorem wd_unique {N K B : Nat} {m V W : List GF} (hc : Cd N K B) (h : Wd N K B m V) (h' : Wd N K B m W) : V = W := by
 obtain ⟨c1, c2, c3, c4⟩ := hc
 have hv : V = V.take (N - K) ++ m := by rw [← h.msg, List.take_append_drop]
 have hw : W = W.take (N - K) ++ m := by rw [← h'.msg, List.take_append_drop]
 have e : V.take (N - K) = W.take (N - K) := by
   refine pv_inj (pts := rts B (N - K)) (rts_nodup (by omega)) ?_ ?_ fun x hx => ?_
   · rw [List.length_take, List.length_take, h.len, h'.len]
   · rw [List.length_take, rts_length]; omega
   · have h1 := h.root x hx
     have h2 := h'.root x hx
     rw [hv, pv_append] at h1
     rw [hw, pv_append] at h2
     have hl : (V.take (N - K)).length = (W.take (N - K)).length := by rw [List.length_take, List.length_take, h.len, h'.len]
     rw [hl] at h1
     exact (eq_of_add h1).trans (eq_of_add h2).symm
 rw [hv, hw, e]
theorem encode_ok {N K B k : Nat} {m : List GF} (h : Cd N K B) (hm : m.length = K) (hk : 70000 < k) : ∃ W, Wd N K B m W ∧ encode_Encode.f k ((N : Int), (K : Int), (B : Int)) (bi m) = some (bi W, 0) := by
 obtain ⟨c1, c2, c3, c4⟩ := id h
 have hz : List.replicate (N - K) (0 : Int) ++ bi m = bi (List.replicate (N - K) 0 ++ m) := by rw [bi_zeros, bi_append]
 have hlen : (List.replicate (N - K) (0 : GF) ++ m).length = N := by simp [hm]; omega
 have hgm := genP_mon (rts B (N - K))
 rw [rts_length] at hgm
 have hb : N * (N - K + 8) ≤ 255 * 262 := Nat.mul_le_mul (by omega) (by omega)
 obtain ⟨R, r1, r2, r3⟩ := mod_ok (k := k) (a := List.replicate (N - K) 0 ++ m) hgm (by omega) (by omega) (by rw [hlen]; omega)
 have hdr : (List.replicate (N - K) (0 : GF) ++ m).drop R.length = List.replicate (N - K - R.length) 0 ++ m := by
   rw [List.drop_append_of_le_length (by rw [List.length_replicate]; exact r1), List.drop_replicate]
 refine ⟨R ++ (List.replicate (N - K - R.length) 0 ++ m), ⟨?_, ?_, ?_⟩, ?_⟩
 · simp [hm]; omega
 · rw [← List.append_assoc]
   exact List.drop_left' (by simp; omega)
 · intro x hx
   have e1 := r2 x (genP_root hx)
   rw [pv_append, pv_append, pv_zeros, GF.zero_add, List.length_replicate, ← GF.mul_assoc, ← pow_add, e1, pv_append, pv_zeros, GF.zero_add, List.length_replicate, show R.length + (N - K - R.length) = N - K by omega, GF.add_self]
 · have hgen : code_Generator.f k ((N : Int), (K : Int), (B : Int)) = some (bi (genP (rts B (N - K)))) := by
     unfold code_Generator.f
     simp only
     rw [right_ok h, Option.bind_some, bifNF rfl, roots_ok h (by omega), Option.bind_some, from_ok (by rw [rts_length]; omega) (by omega)]; rfl
   have hcp : cpy 0 (bi (List.replicate (N - K) 0 ++ m)).length (bi R) (bi (List.replicate (N - K) 0 ++ m)) = bi (R ++ (List.replicate (N - K - R.length) 0 ++ m)) := by
     rw [← hdr]
     have t1 : (bi R).take N = bi R := List.take_of_length_le (by rw [bi_length]; omega)
     unfold cpy
     rw [bi_length, hlen, t1, List.take_zero, List.nil_append, bi_length, Nat.zero_add, bi_drop, ← bi_append]
   unfold encode_Encode.f
   simp only
   rw [right_ok h, Option.bind_some, bifNF rfl, bifNF (by rw [bi_length, hm])]
   unfold encode_Encode.j0
   rw [bifNF rfl]
   simp only
   rw [space_ok h, Option.bind_some, grdT (by omega), Int.toNat_natCast, grdT (by rw [List.length_replicate, bi_length]; omega), hgen, Option.bind_some, hz, r3, Option.bind_some, hcp]
theorem at_l0 (p : List GF) (x : GF) : ∀ (j k : Nat) (acc : GF), j ≤ p.length → j < k → p.length < 4294967296 →
   value_At.l0 k (bi p) ((x.1 : Nat) : Int) ((acc.1 : Nat) : Int) ((j : Int) - 1) = some (((pv (p.take j) x + pow x j * acc).1 : Nat) : Int)
 | j, 0, _, _, h, _ => by omega
 | 0, k + 1, acc, hj, hk, hb => by
   rw [value_At.l0, bifF (by omega), List.take_zero, pv, pow, GF.one_mul, GF.zero_add]
 | j + 1, k + 1, acc, hj, hk, hb => by
   have e1 : ((j + 1 : Nat) : Int) - 1 = (j : Int) := by omega
   have e2 : IntKind.i64.wrap ((j : Int) - 1) = (j : Int) - 1 := i64_id (by omega) (by omega)
   have e3 : p.take (j + 1) = p.take j ++ [p.getD j 0] := by
     rw [List.take_succ_eq_append_getElem hj, getD_lt hj]
   have hjl : (p.take j).length = j := by simp; omega
   rw [value_At.l0, e1, bifT (by omega), grdT (by rw [bi_length]; omega), fmul_ok, Option.bind_some, bi_at, xor_val, e2, at_l0 p x j k _ (by omega) (by omega) hb, e3, pv_append, hjl]
   congr 3
   rw [pv, pv, GF.mul_zero, GF.add_zero, pow, GF.mul_add, GF.add_assoc]
   congr 1
   rw [GF.add_comm]
   congr 1
   ac_rfl
theorem at_ok {p : List GF} {x : GF} {k : Nat} (hk : p.length < k) (hb : p.length < 4294967296) : value_At.f k (bi p) ((x.1 : Nat) : Int) = some (((pv p x).1 : Nat) : Int) := by
 unfold value_At.f
 have := at_l0 p x p.length k 0 (Nat.le_refl _) hk hb
 rw [List.take_length, GF.mul_zero, GF.add_zero] at this
 rw [bi_length, i64_id (by omega) (by omega)]
 exact this
theorem all_l0 (p pts : List GF) (hp : p.length < 1000) (hq : pts.length < 1000) : ∀ (d i k : Nat), i + d = pts.length → 1000 + d < k →
   value_All.l0 k (bi p) (bi pts) (bi ((pts.take i).map (pv p) ++ List.replicate d 0)) (i : Int) = some (bi (pts.map (pv p)))
 | d, i, 0, _, h => by omega
 | 0, i, k + 1, hd, hk => by
   rw [value_All.l0, bifF (by rw [bi_length]; omega), List.take_of_length_le (by omega)]; simp
 | d + 1, i, k + 1, hd, hk => by
   have hi : i < pts.length := by omega
   have hil : ((pts.take i).map (pv p)).length = i := by simp; omega
   rw [value_All.l0, bifT (by rw [bi_length]; omega), grdT (by rw [bi_length]; omega), bi_at, at_ok (by omega) (by omega), Option.bind_some, grdT (by rw [bi_length, List.length_append, hil]; simp; omega), Int.toNat_natCast, bi_set, wrap1 (by omega)]
   have e : ((pts.take i).map (pv p) ++ List.replicate (d + 1) 0).set i (pv p (pts.getD i 0)) = (pts.take (i + 1)).map (pv p) ++ List.replicate d 0 := by
     rw [List.set_append_right _ _ (by omega), hil, Nat.sub_self, List.replicate_succ, List.set_cons_zero, List.take_succ_eq_append_getElem hi, getD_lt hi, List.map_append, List.append_assoc]
     rfl
   rw [e]
   exact all_l0 p pts hp hq d (i + 1) k (by omega) (by omega)
theorem all_ok {p pts : List GF} {k : Nat} (hp : p.length < 1000) (hq : pts.length < 1000) (hk : 3000 < k) : value_All.f k (bi p) (bi pts) = some (bi (pts.map (pv p))) := by
 unfold value_All.f
 rw [bi_length, grdT (by omega), Int.toNat_natCast]
 have := all_l0 p pts hp hq pts.length 0 k (by omega) (by omega)
 rw [List.take_zero, List.map_nil, List.nil_append, ← bi_zeros] at this
 exact this
theorem wd_zeros {N K B : Nat} {m W : List GF} (h : Wd N K B m W) : (rts B (N - K)).map (pv W) = List.replicate (N - K) 0 := by
 rw [List.eq_replicate_iff]
 refine ⟨by rw [List.length_map, rts_length], fun y hy => ?_⟩
 obtain ⟨x, hx, rfl⟩ := List.mem_map.1 hy
 exact h.root x hx
theorem synd_ok {N K B k : Nat} {m W : List GF} (hc : Cd N K B) (h : Wd N K B m W) (hk : 3000 < k) : synd_Syndromes.f k ((N : Int), (K : Int), (B : Int)) (bi W) = some (bi (List.replicate (N - K) 0)) := by
 obtain ⟨c1, c2, c3, c4⟩ := id hc
 unfold synd_Syndromes.f
 simp only
 rw [right_ok hc, Option.bind_some, bifNF rfl, bifNF (by rw [bi_length, h.len]), roots_ok hc (by omega), Option.bind_some, all_ok (by rw [h.len]; omega) (by rw [rts_length]; omega) hk, wd_zeros h]; rfl
theorem has_l0 (n : Nat) (hn : n < 1000) : ∀ (d i k : Nat), i + d = n → d < k → code_Has.l0 k (bi (List.replicate n 0)) (i : Int) = some true
 | d, i, 0, _, h => by omega
 | 0, i, k + 1, hd, hk => by
   rw [code_Has.l0, bifF (by rw [bi_length, List.length_replicate]; omega)]; rfl
 | d + 1, i, k + 1, hd, hk => by
   rw [code_Has.l0, bifT (by rw [bi_length, List.length_replicate]; omega), grdT (by rw [bi_length, List.length_replicate]; omega), bi_at, wrap1 (by omega)]
   have e : (List.replicate n (0 : GF)).getD i 0 = 0 := by
     simp only [List.getD_eq_getElem?_getD, List.getElem?_replicate]; split <;> rfl
   rw [e]
   exact has_l0 n hn d (i + 1) k (by omega) (by omega)
theorem has_ok {N K B k : Nat} {m W : List GF} (hc : Cd N K B) (h : Wd N K B m W) (hk : 3000 < k) : code_Has.f k ((N : Int), (K : Int), (B : Int)) (bi W) = some true := by
 obtain ⟨c1, c2, c3, c4⟩ := id hc
 unfold code_Has.f
 simp only
 rw [right_ok hc, Option.bind_some, bifNF rfl, bifNF (by rw [bi_length, h.len]), roots_ok hc (by omega), Option.bind_some, all_ok (by rw [h.len]; omega) (by rw [rts_length]; omega) hk, wd_zeros h, Option.bind_some]
 exact has_l0 (N - K) (by omega) (N - K) 0 k (by omega) (by omega)
end Go.Proofs.YtkndgkbgbmhjoaaGreatDoor.Gw
namespace Go.Proofs
open Go.Shelf
def Tryz.lays156_ren : Go.Shelf.Ren := ⟨fun | 156 => 77 | 165 => 136 | 166 => 30 | 169 => 31 | 240 => 57 | 241 => 193 | 276 => 96 | 277 => 250 | n => n, fun | 31 => 50 | 9 => 9 | 3 => 3 | 4 => 4 | 0 => 0 | 20 => 20 | 72 => 55 | 76 => 58 | 70 => 53 | 37 => 22 | 75 => 57 | 127 => 121 | 164 => 184 | 5 => 5 | 80 => 60 | n => n, fun | n => n⟩
theorem Tryz.lays156 : Go.Proofs.Lays.n156 Tryz.prog Tryz.lays156_ren := {
 mixed := by kernel_rfl
 f156 := Tryz.func77.trans (congrArg some (by kernel_rfl))
 f165 := Tryz.func136.trans (congrArg some (by kernel_rfl))
 f166 := Tryz.func30.trans (congrArg some (by kernel_rfl))
 f169 := Tryz.func31.trans (congrArg some (by kernel_rfl))
 f240 := Tryz.func57.trans (congrArg some (by kernel_rfl))
 f241 := Tryz.func193.trans (congrArg some (by kernel_rfl))
 f276 := Tryz.func96.trans (congrArg some (by kernel_rfl))
 f277 := Tryz.func250.trans (congrArg some (by kernel_rfl))
 t0 := Tryz.underlying0
 a0 := Tryz.isAgg0
 z0 := Tryz.sizeOf0
 v0 := Tryz.zeroValue0
 t3 := Tryz.underlying3
 a3 := Tryz.isAgg3
 z3 := Tryz.sizeOf3
 v3 := Tryz.zeroValue3
 t4 := Tryz.underlying4
 a4 := Tryz.isAgg4
 z4 := Tryz.sizeOf4
 v4 := Tryz.zeroValue4
 t9 := Tryz.underlying9
 a9 := Tryz.isAgg9
 z9 := Tryz.sizeOf9
 v9 := Tryz.zeroValue9
 t20 := Tryz.underlying20
 a20 := Tryz.isAgg20
 z20 := Tryz.sizeOf20
 v20 := Tryz.zeroValue20
 t31 := Tryz.underlying50
 a31 := Tryz.isAgg50
 z31 := Tryz.sizeOf50
 v31 := Tryz.zeroValue50
 t37 := Tryz.underlying22
 a37 := Tryz.isAgg22
 z37 := Tryz.sizeOf22
 v37 := Tryz.zeroValue22
 t70 := Tryz.underlying53
 a70 := Tryz.isAgg53
 z70 := Tryz.sizeOf53
 v70 := Tryz.zeroValue53
 t72 := Tryz.underlying55
 a72 := Tryz.isAgg55
 z72 := Tryz.sizeOf55
 v72 := Tryz.zeroValue55
 t75 := Tryz.underlying57
 a75 := Tryz.isAgg57
 z75 := Tryz.sizeOf57
 v75 := Tryz.zeroValue57
 t76 := Tryz.underlying58
 a76 := Tryz.isAgg58
 z76 := Tryz.sizeOf58
 v76 := Tryz.zeroValue58
 t127 := Tryz.underlying121
 a127 := Tryz.isAgg121
 z127 := Tryz.sizeOf121
 v127 := Tryz.zeroValue121
 t164 := Tryz.underlying184
 a164 := Tryz.isAgg184
 z164 := Tryz.sizeOf184
 v164 := Tryz.zeroValue184 }
theorem Tryz.Builder_Extra_156 : Builder.Extra Tryz.prog Tryz.lays156_ren := {
 sizeBuilder := by kernel_rfl
 liesBuilder := by kernel_rfl
 t5 := Tryz.underlying5
 a5 := Tryz.isAgg5
 z5 := Tryz.sizeOf5
 v5 := Tryz.zeroValue5
 infoByte := by kernel_rfl
 cellsByte := by kernel_rfl
 sizeByte := by kernel_rfl
 neB5 := by decide }
open Go.RowKit in
/-- No element: the empty string; the world is as it was. (Whatever the slice's address and capacity: a nil slice too.) (LAID: no walk: one application.) -/
theorem Tryz.strings_Join_none (a : Option Addr) (c : Nat) (sep : ByteArray) (w : World) :
   Calls Tryz.prog 77 #[.slice a 0 c, .string sep] w fun e w' => e = .returned (.string ⟨#[]⟩) ∧ w' = w := Any.strings_Join_none Tryz.lays156 Tryz.Builder_Extra_156 a c sep w
open Go.RowKit in
/-- strings.Join: "Join concatenates the elements of its first argument to create a single string. The separator string sep is placed between elements in the resulting string.": HOWEVER MANY ELEMENTS. Below the heap's end the world is as it was. (LAID: no walk: one application.) -/
theorem Tryz.strings_Join (bk o c : Nat) (xs : List ByteArray) (sep : ByteArray) (w : World) (hcells : ∀ (j : Nat) x, xs[j]? = some x → w.cell? ⟨bk, o + j, none⟩ = some (.string x)) (hbk : bk < w.heap.size) (hN : xs.length ≤ 140737488355328) (hcap : xs.length ≤ c) (hlen : (Lib.join (xs.map (·.data.toList)) sep.data.toList).length ≤ 140737488355328) :
   Calls Tryz.prog 77 #[.slice (some ⟨bk, o, none⟩) xs.length c, .string sep] w fun e w' => e = .returned (.string ⟨(Lib.join (xs.map (·.data.toList)) sep.data.toList).toArray⟩) ∧ Below w.heap.size w w' := Any.strings_Join Tryz.lays156 Tryz.Builder_Extra_156 bk o c xs sep w hcells hbk hN hcap hlen
def Tryz.lays172_ren : Go.Shelf.Ren := ⟨fun | 172 => 66 | 244 => 108 | 245 => 109 | 247 => 167 | 279 => 168 | 280 => 169 | 281 => 170 | 282 => 171 | 287 => 217 | 316 => 218 | 171 => 32 | 205 => 219 | 321 => 269 | 322 => 270 | 243 => 58 | 246 => 97 | 283 => 158 | 284 => 159 | 285 => 160 | 286 => 161 | 129 => 211 | 317 => 210 | 318 => 212 | 319 => 213 | 320 => 214 | 337 => 265 | 338 => 266 | n => n, fun | 9 => 9 | 3 => 3 | 75 => 57 | 76 => 58 | 4 => 4 | 5 => 5 | 167 => 270 | 37 => 22 | 0 => 0 | 85 => 271 | 2 => 2 | 168 => 273 | 53 => 261 | 175 => 310 | 46 => 130 | 210 => 313 | 127 => 121 | 145 => 358 | 143 => 356 | 21 => 21 | 171 => 260 | 173 => 264 | 212 => 307 | 51 => 68 | 20 => 20 | 213 => 308 | 232 => 388 | 233 => 389 | 80 => 60 | n => n, fun | 15 => 2 | 16 => 3 | 17 => 1 | 18 => 6 | 19 => 7 | n => n⟩
theorem Tryz.lays172 : Go.Proofs.Lays.n172 Tryz.prog Tryz.lays172_ren := {
 mixed := by kernel_rfl
 f129 := Tryz.func211.trans (congrArg some (by kernel_rfl))
 f171 := Tryz.func32.trans (congrArg some (by kernel_rfl))
 f172 := Tryz.func66.trans (congrArg some (by kernel_rfl))
 f205 := Tryz.func219.trans (congrArg some (by kernel_rfl))
 f243 := Tryz.func58.trans (congrArg some (by kernel_rfl))
 f244 := Tryz.func108.trans (congrArg some (by kernel_rfl))
 f245 := Tryz.func109.trans (congrArg some (by kernel_rfl))
 f246 := Tryz.func97.trans (congrArg some (by kernel_rfl))
 f247 := Tryz.func167.trans (congrArg some (by kernel_rfl))
 f279 := Tryz.func168.trans (congrArg some (by kernel_rfl))
 f280 := Tryz.func169.trans (congrArg some (by kernel_rfl))
 f281 := Tryz.func170.trans (congrArg some (by kernel_rfl))
 f282 := Tryz.func171.trans (congrArg some (by kernel_rfl))
 f283 := Tryz.func158.trans (congrArg some (by kernel_rfl))
 f284 := Tryz.func159.trans (congrArg some (by kernel_rfl))
 f285 := Tryz.func160.trans (congrArg some (by kernel_rfl))
 f286 := Tryz.func161.trans (congrArg some (by kernel_rfl))
 f287 := Tryz.func217.trans (congrArg some (by kernel_rfl))
 f316 := Tryz.func218.trans (congrArg some (by kernel_rfl))
 f317 := Tryz.func210.trans (congrArg some (by kernel_rfl))
 f318 := Tryz.func212.trans (congrArg some (by kernel_rfl))
 f319 := Tryz.func213.trans (congrArg some (by kernel_rfl))
 f320 := Tryz.func214.trans (congrArg some (by kernel_rfl))
 f321 := Tryz.func269.trans (congrArg some (by kernel_rfl))
 f322 := Tryz.func270.trans (congrArg some (by kernel_rfl))
 f337 := Tryz.func265.trans (congrArg some (by kernel_rfl))
 f338 := Tryz.func266.trans (congrArg some (by kernel_rfl))
 t0 := Tryz.underlying0
 a0 := Tryz.isAgg0
 z0 := Tryz.sizeOf0
 v0 := Tryz.zeroValue0
 t2 := Tryz.underlying2
 a2 := Tryz.isAgg2
 z2 := Tryz.sizeOf2
 v2 := Tryz.zeroValue2
 t3 := Tryz.underlying3
 a3 := Tryz.isAgg3
 z3 := Tryz.sizeOf3
 v3 := Tryz.zeroValue3
 t4 := Tryz.underlying4
 a4 := Tryz.isAgg4
 z4 := Tryz.sizeOf4
 v4 := Tryz.zeroValue4
 t5 := Tryz.underlying5
 a5 := Tryz.isAgg5
 z5 := Tryz.sizeOf5
 v5 := Tryz.zeroValue5
 t9 := Tryz.underlying9
 a9 := Tryz.isAgg9
 z9 := Tryz.sizeOf9
 v9 := Tryz.zeroValue9
 t20 := Tryz.underlying20
 a20 := Tryz.isAgg20
 z20 := Tryz.sizeOf20
 v20 := Tryz.zeroValue20
 t21 := Tryz.underlying21
 a21 := Tryz.isAgg21
 z21 := Tryz.sizeOf21
 v21 := Tryz.zeroValue21
 t37 := Tryz.underlying22
 a37 := Tryz.isAgg22
 z37 := Tryz.sizeOf22
 v37 := Tryz.zeroValue22
 t46 := Tryz.underlying130
 a46 := Tryz.isAgg130
 z46 := Tryz.sizeOf130
 v46 := Tryz.zeroValue130
 t51 := Tryz.underlying68
 a51 := Tryz.isAgg68
 z51 := Tryz.sizeOf68
 v51 := Tryz.zeroValue68
 t53 := Tryz.underlying261
 a53 := Tryz.isAgg261
 z53 := Tryz.sizeOf261
 v53 := Tryz.zeroValue261
 t75 := Tryz.underlying57
 a75 := Tryz.isAgg57
 z75 := Tryz.sizeOf57
 v75 := Tryz.zeroValue57
 t76 := Tryz.underlying58
 a76 := Tryz.isAgg58
 z76 := Tryz.sizeOf58
 v76 := Tryz.zeroValue58
 t85 := Tryz.underlying271
 a85 := Tryz.isAgg271
 z85 := Tryz.sizeOf271
 v85 := Tryz.zeroValue271
 t127 := Tryz.underlying121
 a127 := Tryz.isAgg121
 z127 := Tryz.sizeOf121
 v127 := Tryz.zeroValue121
 t143 := Tryz.underlying356
 a143 := Tryz.isAgg356
 z143 := Tryz.sizeOf356
 v143 := Tryz.zeroValue356
 t145 := Tryz.underlying358
 a145 := Tryz.isAgg358
 z145 := Tryz.sizeOf358
 v145 := Tryz.zeroValue358
 t167 := Tryz.underlying270
 a167 := Tryz.isAgg270
 z167 := Tryz.sizeOf270
 v167 := Tryz.zeroValue270
 t168 := Tryz.underlying273
 a168 := Tryz.isAgg273
 z168 := Tryz.sizeOf273
 v168 := Tryz.zeroValue273
 t171 := Tryz.underlying260
 a171 := Tryz.isAgg260
 z171 := Tryz.sizeOf260
 v171 := Tryz.zeroValue260
 t173 := Tryz.underlying264
 a173 := Tryz.isAgg264
 z173 := Tryz.sizeOf264
 v173 := Tryz.zeroValue264
 t175 := Tryz.underlying310
 a175 := Tryz.isAgg310
 z175 := Tryz.sizeOf310
 v175 := Tryz.zeroValue310
 t210 := Tryz.underlying313
 a210 := Tryz.isAgg313
 z210 := Tryz.sizeOf313
 v210 := Tryz.zeroValue313
 t212 := Tryz.underlying307
 a212 := Tryz.isAgg307
 z212 := Tryz.sizeOf307
 v212 := Tryz.zeroValue307
 t213 := Tryz.underlying308
 a213 := Tryz.isAgg308
 z213 := Tryz.sizeOf308
 t232 := Tryz.underlying388
 a232 := Tryz.isAgg388
 z232 := Tryz.sizeOf388
 v232 := Tryz.zeroValue388
 t233 := Tryz.underlying389
 a233 := Tryz.isAgg389
 z233 := Tryz.sizeOf389
 v233 := Tryz.zeroValue389
 g15 := by kernel_rfl
 g16 := by kernel_rfl
 g17 := by kernel_rfl
 g18 := by kernel_rfl
 g19 := by kernel_rfl }
open Go.RowKit in
/-- strconv.Atoi: "Atoi is equivalent to ParseInt(s, 10, 0), converted to type int.": AT A DECIMAL NUMERAL OF AT MOST 18 BYTES: its value, and a nil error. The world behind the call: the one new row that the library's '[]byte(s)' lays. (LAID: no walk: one application.) -/
theorem Tryz.strconv_Atoi (s : ByteArray) (n : Int) (hl : s.size ≤ 18) (h : Lib.atoi s.data.toList = some n) (w : World) :
   Calls Tryz.prog 66 #[.string s] w fun e w' => e = .returned (.tuple #[.int .i64 n, .nilIface]) ∧ ∃ t, w' = Lib.bytesWorld w 5 t := Any.strconv_Atoi Tryz.lays172 s n hl h w
def Tryz.laysM171_ren : Go.Shelf.Ren := ⟨fun | 171 => 32 | 243 => 58 | 246 => 97 | 283 => 158 | 284 => 159 | 285 => 160 | 286 => 161 | 129 => 211 | 317 => 210 | 318 => 212 | 319 => 213 | 320 => 214 | 337 => 265 | 338 => 266 | n => n, fun | 3 => 3 | 9 => 9 | 2 => 2 | 4 => 4 | 171 => 260 | 0 => 0 | 53 => 261 | 37 => 22 | 5 => 5 | 173 => 264 | 212 => 307 | 51 => 68 | 20 => 20 | 213 => 308 | 46 => 130 | 232 => 388 | 233 => 389 | n => n, fun | 17 => 1 | 18 => 6 | 19 => 7 | n => n⟩
theorem Tryz.laysM171 : Go.Proofs.LaysM.n171 Tryz.prog Tryz.laysM171_ren := {
 mixed := by kernel_rfl
 f129 := Tryz.func211.trans (congrArg some (by kernel_rfl))
 f171 := Tryz.func32.trans (congrArg some (by kernel_rfl))
 f243 := Tryz.func58.trans (congrArg some (by kernel_rfl))
 f246 := Tryz.func97.trans (congrArg some (by kernel_rfl))
 f283 := Tryz.func158.trans (congrArg some (by kernel_rfl))
 f284 := Tryz.func159.trans (congrArg some (by kernel_rfl))
 f285 := Tryz.func160.trans (congrArg some (by kernel_rfl))
 f286 := Tryz.func161.trans (congrArg some (by kernel_rfl))
 f317 := Tryz.func210.trans (congrArg some (by kernel_rfl))
 f318 := Tryz.func212.trans (congrArg some (by kernel_rfl))
 f319 := Tryz.func213.trans (congrArg some (by kernel_rfl))
 f320 := Tryz.func214.trans (congrArg some (by kernel_rfl))
 f337 := Tryz.func265.trans (congrArg some (by kernel_rfl))
 f338 := Tryz.func266.trans (congrArg some (by kernel_rfl))
 t0 := Tryz.underlying0
 a0 := Tryz.isAgg0
 z0 := Tryz.sizeOf0
 v0 := Tryz.zeroValue0
 t2 := Tryz.underlying2
 a2 := Tryz.isAgg2
 z2 := Tryz.sizeOf2
 v2 := Tryz.zeroValue2
 t3 := Tryz.underlying3
 a3 := Tryz.isAgg3
 z3 := Tryz.sizeOf3
 v3 := Tryz.zeroValue3
 t4 := Tryz.underlying4
 a4 := Tryz.isAgg4
 z4 := Tryz.sizeOf4
 v4 := Tryz.zeroValue4
 t5 := Tryz.underlying5
 a5 := Tryz.isAgg5
 z5 := Tryz.sizeOf5
 v5 := Tryz.zeroValue5
 t9 := Tryz.underlying9
 a9 := Tryz.isAgg9
 z9 := Tryz.sizeOf9
 v9 := Tryz.zeroValue9
 t20 := Tryz.underlying20
 a20 := Tryz.isAgg20
 z20 := Tryz.sizeOf20
 v20 := Tryz.zeroValue20
 t37 := Tryz.underlying22
 a37 := Tryz.isAgg22
 z37 := Tryz.sizeOf22
 v37 := Tryz.zeroValue22
 t46 := Tryz.underlying130
 a46 := Tryz.isAgg130
 z46 := Tryz.sizeOf130
 v46 := Tryz.zeroValue130
 t51 := Tryz.underlying68
 a51 := Tryz.isAgg68
 z51 := Tryz.sizeOf68
 v51 := Tryz.zeroValue68
 t53 := Tryz.underlying261
 a53 := Tryz.isAgg261
 z53 := Tryz.sizeOf261
 v53 := Tryz.zeroValue261
 t171 := Tryz.underlying260
 a171 := Tryz.isAgg260
 z171 := Tryz.sizeOf260
 v171 := Tryz.zeroValue260
 t173 := Tryz.underlying264
 a173 := Tryz.isAgg264
 z173 := Tryz.sizeOf264
 v173 := Tryz.zeroValue264
 t212 := Tryz.underlying307
 a212 := Tryz.isAgg307
 z212 := Tryz.sizeOf307
 v212 := Tryz.zeroValue307
 t213 := Tryz.underlying308
 a213 := Tryz.isAgg308
 z213 := Tryz.sizeOf308
 t232 := Tryz.underlying388
 a232 := Tryz.isAgg388
 z232 := Tryz.sizeOf388
 v232 := Tryz.zeroValue388
 t233 := Tryz.underlying389
 a233 := Tryz.isAgg389
 z233 := Tryz.sizeOf389
 v233 := Tryz.zeroValue389
 g17 := by kernel_rfl
 g18 := by kernel_rfl
 g19 := by kernel_rfl
 i0 := by kernel_rfl
 i2 := by kernel_rfl
 i3 := by kernel_rfl
 i4 := by kernel_rfl
 i5 := by kernel_rfl
 i9 := by kernel_rfl
 i20 := by kernel_rfl
 i37 := by kernel_rfl
 i46 := by kernel_rfl
 i51 := by kernel_rfl
 i53 := by kernel_rfl
 i171 := by kernel_rfl
 i173 := by kernel_rfl
 i212 := by kernel_rfl
 i232 := by kernel_rfl
 i233 := by kernel_rfl
 m17 := by kernel_rfl
 m18 := by kernel_rfl
 m19 := by kernel_rfl }
open Go.RowKit Go.Sort Go.Lib in
/-- strconv.Itoa: "Itoa is equivalent to FormatInt(int64(i), 10).": i's DECIMAL NUMERAL ('Lib.itoa': a '-' where i is negative, then the digits), FOR EVERY int. The world behind the call: the world before it, new blocks behind the heap (the library's 'var a [24]byte'), draws. (LAID: no walk: one application.) -/
theorem Tryz.strconv_Itoa (n : Int) (h0 : -9223372036854775808 ≤ n) (h1 : n ≤ 9223372036854775807) (w : World) (htab : Lib.TabIs Tryz.prog w "internal/strconv.uint64pow10" .u64 Lib.pow10Tab) :
   Calls Tryz.prog 32 #[.int .i64 n] w fun e w' => e = .returned (.string ⟨(Lib.itoa n).toArray⟩) ∧ ∃ k os, w' = grow (w.drewN k) os := Any.strconv_Itoa Tryz.laysM171 n h0 h1 w htab
def Tryz.lays146_ren : Go.Shelf.Ren := ⟨fun | 146 => 28 | 221 => 56 | 268 => 93 | 138 => 94 | 143 => 95 | 195 => 154 | 197 => 155 | 218 => 156 | 219 => 157 | 260 => 205 | 217 => 206 | 225 => 207 | 224 => 208 | 267 => 209 | 266 => 263 | 314 => 264 | n => n, fun | 9 => 9 | 31 => 50 | 3 => 3 | 4 => 4 | 0 => 0 | 105 => 257 | 21 => 21 | 5 => 5 | 46 => 130 | 119 => 233 | 139 => 351 | 138 => 350 | 146 => 352 | 51 => 68 | n => n, fun | 1 => 0 | 3 => 4 | 4 => 5 | n => n⟩
theorem Tryz.lays146 : Go.Proofs.Lays.n146 Tryz.prog Tryz.lays146_ren := {
 mixed := by kernel_rfl
 f138 := Tryz.func94.trans (congrArg some (by kernel_rfl))
 f143 := Tryz.func95.trans (congrArg some (by kernel_rfl))
 f146 := Tryz.func28.trans (congrArg some (by kernel_rfl))
 f195 := Tryz.func154.trans (congrArg some (by kernel_rfl))
 f197 := Tryz.func155.trans (congrArg some (by kernel_rfl))
 f217 := Tryz.func206.trans (congrArg some (by kernel_rfl))
 f218 := Tryz.func156.trans (congrArg some (by kernel_rfl))
 f219 := Tryz.func157.trans (congrArg some (by kernel_rfl))
 f221 := Tryz.func56.trans (congrArg some (by kernel_rfl))
 f224 := Tryz.func208.trans (congrArg some (by kernel_rfl))
 f225 := Tryz.func207.trans (congrArg some (by kernel_rfl))
 f260 := Tryz.func205.trans (congrArg some (by kernel_rfl))
 f266 := Tryz.func263.trans (congrArg some (by kernel_rfl))
 f267 := Tryz.func209.trans (congrArg some (by kernel_rfl))
 f268 := Tryz.func93.trans (congrArg some (by kernel_rfl))
 f314 := Tryz.func264.trans (congrArg some (by kernel_rfl))
 t0 := Tryz.underlying0
 a0 := Tryz.isAgg0
 z0 := Tryz.sizeOf0
 v0 := Tryz.zeroValue0
 t3 := Tryz.underlying3
 a3 := Tryz.isAgg3
 z3 := Tryz.sizeOf3
 v3 := Tryz.zeroValue3
 t4 := Tryz.underlying4
 a4 := Tryz.isAgg4
 z4 := Tryz.sizeOf4
 v4 := Tryz.zeroValue4
 t5 := Tryz.underlying5
 a5 := Tryz.isAgg5
 z5 := Tryz.sizeOf5
 v5 := Tryz.zeroValue5
 t9 := Tryz.underlying9
 a9 := Tryz.isAgg9
 z9 := Tryz.sizeOf9
 v9 := Tryz.zeroValue9
 t21 := Tryz.underlying21
 a21 := Tryz.isAgg21
 z21 := Tryz.sizeOf21
 v21 := Tryz.zeroValue21
 t31 := Tryz.underlying50
 a31 := Tryz.isAgg50
 z31 := Tryz.sizeOf50
 v31 := Tryz.zeroValue50
 t46 := Tryz.underlying130
 a46 := Tryz.isAgg130
 z46 := Tryz.sizeOf130
 v46 := Tryz.zeroValue130
 t51 := Tryz.underlying68
 a51 := Tryz.isAgg68
 z51 := Tryz.sizeOf68
 v51 := Tryz.zeroValue68
 t105 := Tryz.underlying257
 a105 := Tryz.isAgg257
 z105 := Tryz.sizeOf257
 v105 := Tryz.zeroValue257
 t119 := Tryz.underlying233
 a119 := Tryz.isAgg233
 z119 := Tryz.sizeOf233
 t138 := Tryz.underlying350
 a138 := Tryz.isAgg350
 z138 := Tryz.sizeOf350
 v138 := Tryz.zeroValue350
 t139 := Tryz.underlying351
 a139 := Tryz.isAgg351
 z139 := Tryz.sizeOf351
 v139 := Tryz.zeroValue351
 t146 := Tryz.underlying352
 a146 := Tryz.isAgg352
 z146 := Tryz.sizeOf352
 v146 := Tryz.zeroValue352
 g1 := by kernel_rfl
 g3 := by kernel_rfl
 g4 := by kernel_rfl }
open Go.RowKit Go.Lib in
/-- strings.Split. (LAID: no walk: one application.) -/
theorem Tryz.strings_Split (s sep : ByteArray) (m : Int) (w : World) (hs : s.size < 4294967281) (hm : w.cell? ⟨0, 0, none⟩ = some (.int .i64 m)) (h1 : 1 ≤ sep.size) :
   Calls Tryz.prog 28 #[.string s, .string sep] w fun e w' =>
     e = .returned (.slice (some ⟨w.heap.size, 0, none⟩) (Lib.countB s sep + 1) (Lib.countB s sep + 1)) ∧ w' = w.alloc (.cells ((Lib.splitB sep 0 (Lib.countB s sep) s).map Value.string).toArray 9) := Any.strings_Split Tryz.lays146 (by kernel_rfl) s sep m w hs hm h1
def Tryz.laysNm224_ren : Go.Shelf.Ren := ⟨fun | 24 => 29 | n => n, fun | 24 => 50 | 9 => 9 | 3 => 3 | 4 => 4 | 0 => 0 | n => n, fun | n => n⟩
theorem Tryz.laysNm224 : Go.Proofs.Lays2.n24 Tryz.prog Tryz.laysNm224_ren := {
 mixed := by kernel_rfl
 f24 := Tryz.func29.trans (congrArg some (by kernel_rfl))
 t0 := Tryz.underlying0
 a0 := Tryz.isAgg0
 z0 := Tryz.sizeOf0
 v0 := Tryz.zeroValue0
 t3 := Tryz.underlying3
 a3 := Tryz.isAgg3
 z3 := Tryz.sizeOf3
 v3 := Tryz.zeroValue3
 t4 := Tryz.underlying4
 a4 := Tryz.isAgg4
 z4 := Tryz.sizeOf4
 v4 := Tryz.zeroValue4
 t9 := Tryz.underlying9
 a9 := Tryz.isAgg9
 z9 := Tryz.sizeOf9
 v9 := Tryz.zeroValue9
 t24 := Tryz.underlying50
 a24 := Tryz.isAgg50
 z24 := Tryz.sizeOf50
 v24 := Tryz.zeroValue50
 i9 := by kernel_rfl }
open Go.RowKit Go.Lib Go.Sort in
/-- slices.Delete at []string: "Delete modifies s in place by removing the elements s[i:j], and returns the modified slice. Delete panics if j > len(s) or s[i:j] is not a valid slice of s. Delete is O(len(s)-i), so if many items must be deleted, it is better to make a single call deleting them all together than to delete one at a time. Delete zeroes the elements s[len(s)-(j-i):len(s)]. If the result is empty, it has the same nilness as s.": FOR i ≤ j ≤ len(s) IT RETURNS THE SLICE CUT TO len(s) - (j - i) ELEMENTS; ITS CELLS HOLD what stood ahead of i, what stood from j on, then j - i zero values; all else is as it was, but for the count of draws. IN THE WORDS OF slices.Sort's CONTRACT ('Holds', 'putRow'). It asks 'zs.length ≤ cap ≤ 2^63 - 1' (every slice's). (Outside i ≤ j ≤ len(s) it panics: no contract here.) (LAID: no walk: one application.) -/
theorem Tryz.slices_Delete_string (blk off cap i j : Nat) (zs : List (List UInt8)) (w : World) (hH : Holds encStr w blk off zs.toArray) (hcap : zs.length ≤ cap) (hm : cap ≤ 9223372036854775807) (hij : i ≤ j) (hj : j ≤ zs.length) :
   Calls Tryz.prog 29 #[.slice (some ⟨blk, off, none⟩) zs.length cap, .int .i64 i, .int .i64 j] w fun e w' => e = .returned (.slice (some ⟨blk, off, none⟩) (zs.length - (j - i)) cap) ∧ ∃ q, w' = putRow encStr (Sort.ahead w q) blk off (zs.take i ++ zs.drop j ++ List.replicate (j - i) []).toArray := Any.slices_Delete_string Tryz.laysNm224 blk off cap i j zs w hH hcap hm hij hj
def Tryz.lays160_ren : Go.Shelf.Ren := ⟨fun | 160 => 65 | 232 => 102 | 231 => 101 | 227 => 103 | 234 => 105 | 233 => 104 | 236 => 107 | 235 => 106 | 228 => 164 | 271 => 166 | 151 => 165 | 197 => 155 | 120 => 216 | 152 => 215 | 260 => 205 | 137 => 267 | 119 => 268 | 224 => 208 | 225 => 207 | 217 => 206 | 266 => 263 | n => n, fun | 9 => 9 | 4 => 4 | 3 => 3 | 5 => 5 | 117 => 191 | 116 => 190 | 0 => 0 | 124 => 194 | 21 => 21 | 105 => 257 | 46 => 130 | 119 => 233 | 139 => 351 | 138 => 350 | n => n, fun | 3 => 4 | 4 => 5 | n => n⟩
theorem Tryz.lays160 : Go.Proofs.Lays.n160 Tryz.prog Tryz.lays160_ren := {
 mixed := by kernel_rfl
 f119 := Tryz.func268.trans (congrArg some (by kernel_rfl))
 f120 := Tryz.func216.trans (congrArg some (by kernel_rfl))
 f137 := Tryz.func267.trans (congrArg some (by kernel_rfl))
 f151 := Tryz.func165.trans (congrArg some (by kernel_rfl))
 f152 := Tryz.func215.trans (congrArg some (by kernel_rfl))
 f160 := Tryz.func65.trans (congrArg some (by kernel_rfl))
 f197 := Tryz.func155.trans (congrArg some (by kernel_rfl))
 f217 := Tryz.func206.trans (congrArg some (by kernel_rfl))
 f224 := Tryz.func208.trans (congrArg some (by kernel_rfl))
 f225 := Tryz.func207.trans (congrArg some (by kernel_rfl))
 f227 := Tryz.func103.trans (congrArg some (by kernel_rfl))
 f228 := Tryz.func164.trans (congrArg some (by kernel_rfl))
 f231 := Tryz.func101.trans (congrArg some (by kernel_rfl))
 f232 := Tryz.func102.trans (congrArg some (by kernel_rfl))
 f233 := Tryz.func104.trans (congrArg some (by kernel_rfl))
 f234 := Tryz.func105.trans (congrArg some (by kernel_rfl))
 f235 := Tryz.func106.trans (congrArg some (by kernel_rfl))
 f236 := Tryz.func107.trans (congrArg some (by kernel_rfl))
 f260 := Tryz.func205.trans (congrArg some (by kernel_rfl))
 f266 := Tryz.func263.trans (congrArg some (by kernel_rfl))
 f271 := Tryz.func166.trans (congrArg some (by kernel_rfl))
 t0 := Tryz.underlying0
 a0 := Tryz.isAgg0
 z0 := Tryz.sizeOf0
 v0 := Tryz.zeroValue0
 t3 := Tryz.underlying3
 a3 := Tryz.isAgg3
 z3 := Tryz.sizeOf3
 v3 := Tryz.zeroValue3
 t4 := Tryz.underlying4
 a4 := Tryz.isAgg4
 z4 := Tryz.sizeOf4
 v4 := Tryz.zeroValue4
 t5 := Tryz.underlying5
 a5 := Tryz.isAgg5
 z5 := Tryz.sizeOf5
 v5 := Tryz.zeroValue5
 t9 := Tryz.underlying9
 a9 := Tryz.isAgg9
 z9 := Tryz.sizeOf9
 v9 := Tryz.zeroValue9
 t21 := Tryz.underlying21
 a21 := Tryz.isAgg21
 z21 := Tryz.sizeOf21
 v21 := Tryz.zeroValue21
 t46 := Tryz.underlying130
 a46 := Tryz.isAgg130
 z46 := Tryz.sizeOf130
 v46 := Tryz.zeroValue130
 t105 := Tryz.underlying257
 a105 := Tryz.isAgg257
 z105 := Tryz.sizeOf257
 v105 := Tryz.zeroValue257
 t116 := Tryz.underlying190
 a116 := Tryz.isAgg190
 z116 := Tryz.sizeOf190
 t117 := Tryz.underlying191
 a117 := Tryz.isAgg191
 z117 := Tryz.sizeOf191
 v117 := Tryz.zeroValue191
 t119 := Tryz.underlying233
 a119 := Tryz.isAgg233
 z119 := Tryz.sizeOf233
 t124 := Tryz.underlying194
 a124 := Tryz.isAgg194
 z124 := Tryz.sizeOf194
 v124 := Tryz.zeroValue194
 t138 := Tryz.underlying350
 a138 := Tryz.isAgg350
 z138 := Tryz.sizeOf350
 v138 := Tryz.zeroValue350
 t139 := Tryz.underlying351
 a139 := Tryz.isAgg351
 z139 := Tryz.sizeOf351
 v139 := Tryz.zeroValue351
 g3 := by kernel_rfl
 g4 := by kernel_rfl }
end Go.Proofs
