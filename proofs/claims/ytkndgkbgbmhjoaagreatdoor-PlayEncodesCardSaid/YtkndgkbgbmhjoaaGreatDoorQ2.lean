/- The card of the law that what a desk encodes is read back from what it tells: a part of its proof. The conditions are those of the statement. -/
import Derived.Test.YtkndgkbgbmhjoaaGreatDoorQ1
import Derived.Shelf.Abstract
import Derived.Laws.IdiomCopy
import Derived.Laws.CopyRow
import Derived.Lib.AppendZeros
import Derived.MapKept
import Derived.KernelRfl
namespace Go.Proofs.YtkndgkbgbmhjoaaGreatDoor.Gw
open Go Go.RowKit
set_option linter.unusedSimpArgs false
set_option linter.unusedVariables false
def Rs.obj (b : Nat) (o : Obj) : Rs where
 fp := fun x => x = b
 inv := fun w => w.heap[b]? = some o
 loc := fun w w' h hi => (h b rfl).trans hi
 bd := fun w h x e => by subst e; exact (Array.getElem?_eq_some_iff.1 h).1
section
variable {P : Program} {ρ : Option Nat} {N : Nat} {Q : Exit → Fr → World → Prop} {t : Fr} {w w0 : World} {X : Nat → Prop} {L M : List Rs} {R : Value → World → Prop} {d : Option Nat} {ty T T' : TypeId} {ps : String} {af : Array Edge} {g : Option (Nat × Bool)} {x y : Operand}
theorem St.obj (H : St X w0 w L) (o : Obj) : St X w0 (w.alloc o) (L ++ [.obj w.heap.size o]) :=
 H.new (.alloc _ _ _) (by show (w.heap.push _)[w.heap.size]? = _; simp) (fun b e => by simp only [Rs.obj] at e; omega)
theorem ch_putObj (w : World) (b : Nat) (o : Obj) : Ch (fun x => x = b) w (w.putObj b o) :=
 ⟨rfl, rfl, rfl, by simp, fun k _ hk => World.putObj_heap_other hk⟩
theorem St.putO (H : St X w0 w L) (q : Nat) {b : Nat} {o : Obj} (hq : L[q]? = some (.obj b o)) (o' : Obj) : St X w0 (w.putObj b o') (L.set q (.obj b o')) :=
 H.put q hq (ch_putObj _ _ _) (World.putObj_heap_same ((Rs.obj b o).bd w (H.get q hq) b rfl)) (fun _ e => .inl e)
structure Tm (N : Nat) (t : Fr) (tm : Array Value) : Prop where
 small : N ≤ 1000000
 size : tm.size = N
 get : ∀ i, Nat.beq i 1000000 = false → tm.getD i undef = t i
theorem Fm.tm {a : Act} (h : Fm N t a) : Tm N t a.tmps := ⟨h.small, h.size, h.get⟩
def rfr (t : Fr) (ps : List Nat) (vs : List Value) : Fr := (ps.zip vs).foldl (fun t p => upd t p.1 p.2) (upd t 1000000 undef)
theorem rfr_fm {tm : Array Value} (hT : Tm N t tm) : ∀ (ps : List Nat) (vs : List Value) (hp : ps.all (fun p => Nat.blt p N) = true),
   Fm N (rfr t ps vs) { tmps := (ps.zip vs).foldl (fun tm p => tm.setIfInBounds p.1 p.2) tm, defers := [] } := by
 have base : Fm N (upd t 1000000 undef) { tmps := tm, defers := [] } :=
   ⟨hT.small, by show [] = marks (upd t 1000000 undef 1000000); rfl, hT.size, fun i hi => by show tm.getD i undef = upd t 1000000 undef i; unfold upd; rw [hi]; exact hT.get i hi⟩
 have key : ∀ (l : List (Nat × Value)) (t : Fr) (tm : Array Value), (∀ p ∈ l, p.1 < N) → Fm N t { tmps := tm, defers := [] } →
     Fm N (l.foldl (fun t p => upd t p.1 p.2) t) { tmps := l.foldl (fun tm p => tm.setIfInBounds p.1 p.2) tm, defers := [] } := by
   intro l
   induction l with
   | nil => exact fun _ _ _ h => h
   | cons p l ih =>
     intro t tm hp h
     exact ih _ _ (fun q hq => hp q (List.mem_cons_of_mem _ hq)) (h.put (d := some p.1) (by simpa [ok, Nat.blt_eq] using hp p List.mem_cons_self) p.2)
 intro ps vs hp
 refine key _ _ _ (fun p h => ?_) base
 have h1 := List.of_mem_zip h
 have := List.all_eq_true.1 hp p.1 h1.1
 simpa [Nat.blt_eq] using this
def RE (P : Program) (l : Nat) (R : Value → World → Prop) : Exit → Fr → World → Prop
 | .normal, _, w => ∃ r, w.heap[l]? = some (.loop r) ∧ R (.bool true) (w.putObj l (.loop { r with state := .ready, pending := none }))
 | .ret, _, w => ∃ r, w.heap[l]? = some (.loop r) ∧ R (.bool false) (w.putObj l (.loop { r with state := .done, pending := some .ret }))
 | .exit i, _, w => ∃ r, w.heap[l]? = some (.loop r) ∧ R (.bool false) (w.putObj l (.loop { r with state := .done, pending := some (.exit i) }))
 | _, _, _ => False
theorem re_n {l : Nat} {r : Loop} (H : St X w0 w L) (q : Nat) (hq : L[q]? = some (.obj l (.loop r))) (h : ∀ w', St X w0 w' (L.set q (.obj l (.loop { r with state := .ready, pending := none }))) → R (.bool true) w') : RE P l R .normal t w :=
 ⟨r, H.get q hq, h _ (H.putO q hq _)⟩
theorem re_r {l : Nat} {r : Loop} (H : St X w0 w L) (q : Nat) (hq : L[q]? = some (.obj l (.loop r))) (h : ∀ w', St X w0 w' (L.set q (.obj l (.loop { r with state := .done, pending := some .ret }))) → R (.bool false) w') : RE P l R .ret t w :=
 ⟨r, H.get q hq, h _ (H.putO q hq _)⟩
theorem re_x {l i : Nat} {r : Loop} (H : St X w0 w L) (q : Nat) (hq : L[q]? = some (.obj l (.loop r))) (h : ∀ w', St X w0 w' (L.set q (.obj l (.loop { r with state := .done, pending := some (.exit i) }))) → R (.bool false) w') : RE P l R (.exit i) t w :=
 ⟨r, H.get q hq, h _ (H.putO q hq _)⟩
def RB (P : Program) (l M : Nat) (R : Value → World → Prop) (body : Code) : Exit → Fr → World → Prop
 | .normal, t, w => ∃ r, w.heap[l]? = some (.loop r) ∧ r.state = .ready ∧ Wc P (some l) M (RE P l R) body t (w.putObj l (.loop { r with state := .busy }))
 | _, _, _ => False
theorem rb_n {l M : Nat} {r : Loop} {body : Code} (H : St X w0 w L) (q : Nat) (hq : L[q]? = some (.obj l (.loop r))) (hr : r.state = .ready)
   (h : ∀ w', St X w0 w' (L.set q (.obj l (.loop { r with state := .busy }))) → Wc P (some l) M (RE P l R) body t w') : RB P l M R body .normal t w :=
 ⟨r, H.get q hq, hr, h _ (H.putO q hq _)⟩
theorem zipfold (tm : Array Value) : ∀ (ps : List Nat) (vs : List Value), (ps.toArray.zip vs.toArray).foldl (fun tm (p : Nat × Value) => tm.setIfInBounds p.1 p.2) tm = (ps.zip vs).foldl (fun tm p => tm.setIfInBounds p.1 p.2) tm := by
 intro ps vs
 rw [List.zip_toArray, List.foldl_toArray]
theorem run_yieldOp {l : Nat} {r : Loop} {xs : Array Operand} {as_ : Array TypeId} {vs : List Value} (hx : ev t x = .func (.yield l) #[] #[]) (hv : xs.toList.map (ev t) = vs) (hl : w.heap[l]? = some (.loop r)) (hs : vs.length = r.params.size) :
   (execOp (ev t) ⟨d, .call ⟨.value x, xs, as_⟩, ty, ps, af, g⟩).run P w = .ok (.round l r.fn ((r.params.zip vs.toArray).foldl (fun tmps (t, a) => tmps.setIfInBounds t a) r.tmps) r.assign r.body) w := by
 have e1 : xs.map (ev t) = vs.toArray := by subst hv; apply Array.ext'; simp
 have hy := run_yield (P := P) (args := vs.toArray) hl (by simpa using hs)
 simp only [execOp, Sem.run_bind]
 simp [resolve, hx, e1, invoke, hy, go_sem]
theorem y_yield {l M : Nat} {r : Loop} {xs : Array Operand} {as_ : Array TypeId} {tr : Fr} (vs : List Value) (hx : ev t x = .func (.yield l) #[] #[]) (hv : xs.toList.map (ev t) = vs) (H : St X w0 w L) (q : Nat) (hq : L[q]? = some (.obj l (.loop r)))
   (hT : Tm M tr r.tmps) (pl : List Nat) (hp : r.params = pl.toArray) (hs : vs.length = pl.length) (hlt : pl.all (fun p => Nat.blt p M) = true)
   (h : Wc P (some l) M (RB P l M R r.body) r.assign (rfr tr pl vs) w) : Yd P ρ N ⟨d, .call ⟨.value x, xs, as_⟩, ty, ps, af, g⟩ t w R := by
 intro a ha K QQ hk
 have hl : w.heap[l]? = some (.loop r) := H.get q hq
 refine ⟨fun _ _ => trivial, ?_⟩
 have hrun := run_yieldOp (P := P) (d := d) (ty := ty) (ps := ps) (af := af) (g := g) (as_ := as_) hx hv hl (by rw [hp, hs]; simp)
 have := semAt_of (ρ := ρ) hrun (fun d e => by cases e)
 show Oper.uponIn (Fw ρ) 0 P _ a K QQ ((Oper.semAt ρ a.eval _).run P w)
 rw [ha.eval, this]
 refine ⟨(fun e => by cases e), ?_⟩
 refine roundIn_of_wpIn trivial ?_
 rw [hp, zipfold]
 have hfm := rfr_fm hT pl vs hlt
 have h' := h _ hfm
 refine Code.wpIn_mono ?_ h'
 rintro e a' w' ⟨t', f', np, hq'⟩
 cases e with
 | normal =>
   obtain ⟨r', hl', hr', hb⟩ := hq'
   refine ⟨_, run_beginRound hl' hr', ?_⟩
   refine Code.wpIn_mono ?_ (hb a' f')
   rintro e2 a2 w2 ⟨t2, f2, np2, hre⟩
   cases e2 with
   | normal => obtain ⟨r2, hl2, hR⟩ := hre; exact ⟨_, _, run_endRound none hl2, hk _ _ hR⟩
   | ret => obtain ⟨r2, hl2, hR⟩ := hre; exact ⟨_, _, run_endRound (some .ret) hl2, hk _ _ hR⟩
   | exit i => obtain ⟨r2, hl2, hR⟩ := hre; exact ⟨_, _, run_endRound (some (.exit i)) hl2, hk _ _ hR⟩
   | goto i => exact hre.elim
   | panic c => exact hre.elim
   | outgrown => exact hre.elim
 | ret => exact hq'.elim
 | exit i => exact hq'.elim
 | goto i => exact hq'.elim
 | panic c => exact hq'.elim
 | outgrown => exact hq'.elim
def pushM : Value → Nat → Value
 | .tuple vs, D => .tuple (Value.pointer (some ⟨D, 0, none⟩) :: vs.toList).toArray
 | _, D => .tuple [Value.pointer (some ⟨D, 0, none⟩)].toArray
theorem markB_push (v : Value) (D : Nat) : markB (pushM v D) = D :: markB v := by
 cases v <;> rfl
theorem marks_push (v : Value) (D : Nat) : marks (pushM v D) = mark1 D :: marks v := by
 unfold marks; rw [markB_push]; rfl
def Rs.mks (v : Value) : Rs where
 fp := fun x => x ∈ markB v
 inv := fun w => (markB v).Nodup ∧ ∀ D ∈ markB v, w.heap[D]? = some (.deferred (some []))
 loc := fun w w' h hi => ⟨hi.1, fun D hD => (h D hD).trans (hi.2 D hD)⟩
 bd := fun w h x e => (Array.getElem?_eq_some_iff.1 (h.2 x e)).1
theorem St.mk0 (H : St X w0 w L) : St X w0 w (L ++ [.mks undef]) :=
 H.new (.refl _ _) ⟨List.nodup_nil, fun D h => by cases h⟩ (fun b h => by cases h)
theorem St.push (H : St X w0 w L) (q : Nat) {v : Value} (hq : L[q]? = some (.mks v)) : St X w0 (w.alloc (.deferred (some []))) (L.set q (.mks (pushM v w.heap.size))) := by
 have hi := H.get q hq
 have hl : ∀ D ∈ markB v, D < w.heap.size := fun D hD => (Rs.mks v).bd w hi D hD
 have hnew : (w.alloc (.deferred (some []))).heap[w.heap.size]? = some (.deferred (some [])) := by show (w.heap.push _)[w.heap.size]? = _; simp
 refine H.put q hq ((Ch.alloc _ w _)) ⟨?_, ?_⟩ (fun b hb => ?_)
 · rw [markB_push]; exact List.nodup_cons.2 ⟨fun h => Nat.lt_irrefl _ (hl _ h), hi.1⟩
 · rw [markB_push]
   intro D hD
   rcases List.mem_cons.1 hD with e | e
   · rw [e]; exact hnew
   · exact (Below.heap_alloc w _ D (hl D e)).trans (hi.2 D e)
 · have hb' : b ∈ markB (pushM v w.heap.size) := hb
   rw [markB_push] at hb'
   rcases List.mem_cons.1 hb' with e | e
   · exact .inr (by omega)
   · exact .inl e
structure LO (N : Nat) (t : Fr) (pl : List Nat) (assign body : Code) (o : Loop) : Prop where
 st : o.state = .ready
 pd : o.pending = none
 ps : o.params = pl.toArray
 asg : o.assign = assign
 bdy : o.body = body
 tm : Tm N t o.tmps
def lpB (o : Loop) : Loop := { o with state := .busy }
def lpD (o : Loop) (c : Code) : Loop := { o with state := .done, pending := some c }
def lpX (o : Loop) : Loop := { o with state := .exhausted }
theorem lo_eta {o : Loop} (h1 : o.state = .ready) (h2 : o.pending = none) : { o with state := .ready, pending := none } = o := by
 cases o; cases h1; cases h2; rfl
theorem yB {l : Nat} {o : Loop} {assign body : Code} {pl : List Nat} {M : Nat} {tr : Fr} (H : St X w0 w L) (q : Nat) (hq : L[q]? = some (.obj l (.loop o))) (hO : LO M tr pl assign body o)
   (h : ∀ w', St X w0 w' (L.set q (.obj l (.loop (lpB o)))) → Wc P (some l) M (RE P l R) body t w') : RB P l M R body .normal t w :=
 rb_n H q hq hO.st h
theorem yN {l : Nat} {o : Loop} {assign body : Code} {pl : List Nat} {M : Nat} {tr : Fr} (H : St X w0 w L) (q : Nat) (hq : L[q]? = some (.obj l (.loop (lpB o)))) (hO : LO M tr pl assign body o)
   (h : ∀ w', St X w0 w' (L.set q (.obj l (.loop o))) → R (.bool true) w') : RE P l R .normal t w :=
 re_n H q hq fun w' h' => h w' (by
   have e : ({ lpB o with state := .ready, pending := none } : Loop) = o := (show ({ lpB o with state := .ready, pending := none } : Loop) = { o with state := .ready, pending := none } from rfl).trans (lo_eta hO.st hO.pd)
   rw [e] at h'; exact h')
theorem yR {l : Nat} {o : Loop} (H : St X w0 w L) (q : Nat) (hq : L[q]? = some (.obj l (.loop (lpB o)))) (h : ∀ w', St X w0 w' (L.set q (.obj l (.loop (lpD o .ret)))) → R (.bool false) w') : RE P l R .ret t w :=
 re_r H q hq h
theorem yX {l i : Nat} {o : Loop} (H : St X w0 w L) (q : Nat) (hq : L[q]? = some (.obj l (.loop (lpB o)))) (h : ∀ w', St X w0 w' (L.set q (.obj l (.loop (lpD o (.exit i))))) → R (.bool false) w') : RE P l R (.exit i) t w :=
 re_x H q hq h
theorem y_yld {l M : Nat} {o : Loop} {assign body : Code} {xs : Array Operand} {as_ : Array TypeId} {tr : Fr} {pl : List Nat} (vs : List Value) (hx : ev t x = .func (.yield l) #[] #[]) (hv : xs.toList.map (ev t) = vs) (H : St X w0 w L) (q : Nat) (hq : L[q]? = some (.obj l (.loop o)))
   (hO : LO M tr pl assign body o) (hs : Nat.beq vs.length pl.length = true) (hlt : pl.all (fun p => Nat.blt p M) = true)
   (h : Wc P (some l) M (RB P l M R body) assign (rfr tr pl vs) w) : Yd P ρ N ⟨d, .call ⟨.value x, xs, as_⟩, ty, ps, af, g⟩ t w R :=
 y_yield vs hx hv H q hq hO.tm pl hO.ps (Nat.eq_of_beq_eq_true hs) hlt (by rw [hO.bdy, hO.asg]; exact h)
def ELq (Q : Exit → Fr → World → Prop) (t : Fr) (W : World) : Option Code → Prop
 | none => Q .normal t W
 | some .ret => Q .ret t W
 | some (.exit i) => Q (.exit i) t W
 | _ => False
def EL (P : Program) (l : Nat) (Q : Exit → Fr → World → Prop) (t : Fr) (w : World) : Prop :=
 ∃ r pd, w.heap[l]? = some (.loop r) ∧ r.state ≠ .busy ∧ r.pending = pd ∧ ELq Q t (w.putObj l (.loop { r with state := .exhausted })) pd
theorem el_n {l M : Nat} {o : Loop} {assign body : Code} {pl : List Nat} {tr : Fr} (H : St X w0 w L) (q : Nat) (hq : L[q]? = some (.obj l (.loop o))) (hO : LO M tr pl assign body o) (h : ∀ w', St X w0 w' (L.set q (.obj l (.loop (lpX o)))) → Q .normal t w') : EL P l Q t w :=
 ⟨o, none, H.get q hq, by rw [hO.st]; nofun, hO.pd, h _ (H.putO q hq _)⟩
theorem el_r {l : Nat} {o : Loop} (H : St X w0 w L) (q : Nat) (hq : L[q]? = some (.obj l (.loop (lpD o .ret)))) (h : ∀ w', St X w0 w' (L.set q (.obj l (.loop (lpX (lpD o .ret))))) → Q .ret t w') : EL P l Q t w :=
 ⟨lpD o .ret, some .ret, H.get q hq, nofun, rfl, h _ (H.putO q hq _)⟩
theorem el_x {l i : Nat} {o : Loop} (H : St X w0 w L) (q : Nat) (hq : L[q]? = some (.obj l (.loop (lpD o (.exit i))))) (h : ∀ w', St X w0 w' (L.set q (.obj l (.loop (lpX (lpD o (.exit i)))))) → Q (.exit i) t w') : EL P l Q t w :=
 ⟨lpD o (.exit i), some (.exit i), H.get q hq, nofun, rfl, h _ (H.putO q hq _)⟩
def JW (P : Program) (ρ : Option Nat) (N : Nat) (Q : Exit → Fr → World → Prop) (a : Act) (W : World) : Option Code → Prop
 | none => ∃ t', Fm N t' a ∧ NP .normal ∧ Q .normal t' W
 | some c => c.wpIn (Fw ρ) 0 P (fun e a' w' => ∃ t', Fm N t' a' ∧ NP e ∧ Q e t' w') a W
theorem elm {a : Act} {pd : Option Code} {W : World} (ha : Fm N t a) (hm : ELq Q t W pd) : JW P ρ N Q a W pd := by
 cases pd with
 | none => exact ⟨t, ha, nofun, hm⟩
 | some c =>
   cases c with
   | ret => exact wpIn_ret ⟨t, ha, nofun, hm⟩
   | exit i => exact wpIn_exit ⟨t, ha, nofun, hm⟩
   | _ => exact hm.elim
theorem el_wp {l : Nat} {a : Act} {w₃ : World} (ha : Fm N t a) (h : EL P l Q t w₃) : ∃ jump w₄, (Instr.endLoop l).run P w₃ = .ok jump w₄ ∧ JW P ρ N Q a w₄ jump := by
 obtain ⟨r, pd, hl, hb, rfl, hm⟩ := h
 exact ⟨r.pending, _, run_endLoop hl hb, elm ha hm⟩
theorem el_range {l : Nat} {a : Act} {w₃ : World} {v : Value} (ha : Fm N t a) (h : EL P l Q t w₃) : rangePost (Fw ρ) 0 P l (fun e a' w' => ∃ t', Fm N t' a' ∧ NP e ∧ Q e t' w') a (.returned v) w₃ := by
 obtain ⟨jump, w4, h1, h2⟩ := el_wp (ρ := ρ) ha h
 refine ⟨jump, w4, h1, ?_⟩
 cases jump with
 | none => exact h2
 | some c => exact h2
theorem rf_invoke {f : Nat} {cap : List Value} {y : Value} (eg : Enters P f) : (invoke (.fn (.func f) cap.toArray) #[y]).run P w = .ok (.enter f (y :: cap).toArray) w := by
 simp [invoke, go_sem]
 exact eg _ _
theorem Fm.push {a : Act} (ha : Fm N t a) (D : Nat) : Fm N (upd t 1000000 (pushM (t 1000000) D)) { a with defers := [mark1 D] ++ a.defers } := by
 refine ⟨ha.small, ?_, ha.size, fun i hi => ?_⟩
 · show mark1 D :: a.defers = marks (upd t 1000000 (pushM (t 1000000) D) 1000000)
   have : upd t 1000000 (pushM (t 1000000) D) 1000000 = pushM (t 1000000) D := rfl
   rw [this, marks_push, ha.defers]
 · show a.tmps.getD i undef = upd t 1000000 _ i
   unfold upd; rw [hi]; exact ha.get i hi
theorem rf_resolve {gg : Operand} {f l : Nat} {cap : Array Value} {a : Act} (hx : a.eval gg = .func (.func f) #[] cap) :
   (resolve a.eval (rangeCall gg l) 0).run P w = .ok { target := .fn (.func f) cap, args := #[.func (.yield l) #[] #[]] } w := by
 simp only [resolve, hx]
 simp [go_sem]
theorem wc_rf {gg : Operand} {pl : List Nat} {assign body : Code} {f : Nat} {fnc : Func} {c : Code} {v : Value} (n : Nat) (cap : List Value) (hx : ev t gg = .func (.func f) #[] cap.toArray) (h1 : P.funcs[f]? = some fnc) (h0 : (fnc.name == "runtime.NumGoroutine") = false) (h2 : fnc.body = some c) (h3 : fnc.ntmps = n)
   (h4 : Nat.ble (cap.length + 1) n = true) (hs : Nat.ble n 1000000 = true) (H : St X w0 w L) (q : Nat) (hq : L[q]? = some (.mks v)) (hv : t 1000000 = v)
   (h : ∀ v' l o w', LO N t pl assign body o → St X w0 w' (L.set q (.mks v') ++ [.obj l (.loop o)]) →
     Wc P none n (Fini P n fnc fun _ w'' => EL P l Q (upd t 1000000 v') w'') c (t0 (.func (.yield l) #[] #[] :: cap)) w') :
   Wc P none N Q (.rangeFunc gg pl.toArray assign body) t w := by
 intro a ha
 refine wpIn_rangeFunc fun fn _ => ?_
 have hen := run_enterLoop_outer (P := P) (w := w) fn a.tmps pl.toArray assign body
 have H1 := (H.push q hq).obj (.loop { state := .ready, pending := none, fn, tmps := a.tmps, params := pl.toArray, assign, body, defers := w.heap.size })
 rw [World.size_alloc] at H1
 have eg := enters_of (P := P) h1 h0 h2
 refine ⟨w.heap.size + 1, [{ target := .collected w.heap.size, args := #[] }], _, { target := .fn (.func f) cap.toArray, args := #[.func (.yield (w.heap.size + 1)) #[] #[]] }, _, f, (.func (.yield (w.heap.size + 1)) #[] #[] :: cap).toArray, _, hen, rf_resolve (by rw [ha.eval]; exact hx), fun _ _ => trivial, rf_invoke eg, (fun e => by cases e), ?_⟩
 have hw := h _ _ _ _ ⟨rfl, rfl, rfl, rfl, rfl, ha.tm⟩ H1
 have hf := ha.push w.heap.size
 rw [hv] at hf
 refine (callsIn_of_wc h1 h2 h3 (by simpa using Nat.le_of_ble_eq_true h4) (Nat.le_of_ble_eq_true hs) (R := rangePost (Fw none) 0 P (w.heap.size + 1) _ _) ?_)
 exact wc_mono hw fun e t' w' ⟨he, v, ht⟩ => ⟨he, v, tk_mono (fun w'' ⟨hr, hel⟩ => ⟨hr, el_range (ρ := none) hf hel⟩) _ _ ht⟩
theorem tk_all {K : World → Prop} : ∀ (Ds : List Nat) (w : World), Ds.Nodup → (∀ D ∈ Ds, w.heap[D]? = some (.deferred (some []))) → (∀ w', Ch (fun x => x ∈ Ds) w w' → K w') → Tk P (Ds.map mark1) w K
 | [], w, _, _, h => h w (.refl _ _)
 | D :: Ds, w, hn, hi, h => by
   obtain ⟨h1, h2⟩ := List.nodup_cons.1 hn
   refine ⟨D, _, rfl, run_takeDeferred (hi D List.mem_cons_self), tk_all Ds _ h2 (fun E hE => ?_) fun w' hc => h w' ?_⟩
   · rw [World.putObj_heap_other (fun e : E = D => h1 (by rw [← e]; exact hE))]
     exact hi E (List.mem_cons_of_mem _ hE)
   · exact (Ch.mono (ch_putObj w D _) (fun i _ e => by rw [e]; exact List.mem_cons_self)).trans (Ch.mono hc fun i _ e => List.mem_cons_of_mem _ e)
theorem tkA {v : Value} {K : World → Prop} (H : St X w0 w L) (q : Nat) (hq : L[q]? = some (.mks v)) (hv : t 1000000 = v) (h : ∀ w', St X w0 w' (L.set q (.mks undef)) → K w') : Tk P (marks (t 1000000)) w K := by
 rw [hv]
 have hi := H.get q hq
 exact tk_all _ w hi.1 hi.2 fun w' hc => h w' (H.put q hq hc ⟨List.nodup_nil, fun D h => by cases h⟩ (fun b h => by cases h))
end
abbrev Sv := Option Addr × Nat × Nat
def sv (a : Sv) : Value := .slice a.1 a.2.1 a.2.2
def hz : Sv := (none, 0, 0)
def Enc.slc : Enc Sv := ⟨1, fun a => [sv a], fun _ => rfl, fun a v h => by simp at h; subst h; rfl⟩
def Rs.nul : Rs := ⟨fun _ => False, fun _ => True, fun _ _ _ h => h, fun _ _ _ h => h.elim⟩
section
variable {X : Nat → Prop} {w0 w w' : World} {L : List Rs}
theorem St.absorb (H : St X w0 w L) (q q2 : Nat) {r s r' : Rs} (hq : L[q]? = some r) (hs : L[q2]? = some s) (hne : (q == q2) = false) (h : Ch r.fp w w') (hr : r'.inv w') (hf : ∀ b, r'.fp b → r.fp b ∨ s.fp b ∨ w.heap.size ≤ b) :
   St X w0 w' ((L.set q r').set q2 .nul) := by
 have hne' : q ≠ q2 := by simpa using hne
 obtain ⟨l1, e1⟩ := List.getElem?_eq_some_iff.1 hq
 obtain ⟨l2, e2⟩ := List.getElem?_eq_some_iff.1 hs
 have mr := List.mem_of_getElem? hq
 have ms := List.mem_of_getElem? hs
 have apart : ∀ i j (hi : i < L.length) (hj : j < L.length), i ≠ j → ∀ b, L[i].fp b → ¬ L[j].fp b := by
   intro i j hi hj hij b x y
   rcases Nat.lt_or_gt_of_ne hij with hl | hl
   · exact (List.pairwise_iff_getElem.1 H.dj) i j hi hj hl b x y
   · exact (List.pairwise_iff_getElem.1 H.dj) j i hj hi hl b y x
 have get : ∀ j (hj : j < ((L.set q r').set q2 .nul).length), ∃ hj' : j < L.length, (j = q2 ∧ ((L.set q r').set q2 .nul)[j] = .nul) ∨ (j = q ∧ j ≠ q2 ∧ ((L.set q r').set q2 .nul)[j] = r') ∨ (j ≠ q ∧ j ≠ q2 ∧ ((L.set q r').set q2 .nul)[j] = L[j]) := by
   intro j hj
   have hj' : j < L.length := by simpa using hj
   refine ⟨hj', ?_⟩
   by_cases h2 : j = q2
   · subst h2; exact .inl ⟨rfl, by simp⟩
   · by_cases h1 : j = q
     · subst h1; exact .inr (.inl ⟨rfl, h2, by simp [List.getElem_set, Ne.symm h2]⟩)
     · exact .inr (.inr ⟨h1, h2, by simp [List.getElem_set, Ne.symm h1, Ne.symm h2]⟩)
 have D : ∀ j (hj : j < L.length), j ≠ q → j ≠ q2 → ∀ b, r'.fp b → ¬ L[j].fp b := by
   intro j hj h1 h2 b hb hb'
   rcases hf b hb with h3 | h3 | h3
   · exact apart q j l1 hj (Ne.symm h1) b (by rw [e1]; exact h3) hb'
   · exact apart q2 j l2 hj (Ne.symm h2) b (by rw [e2]; exact h3) hb'
   · have := L[j].bd w (H.inv _ (List.getElem_mem hj)) b hb'; omega
 refine ⟨H.ch.trans' h (fun b hb x => (H.fp r mr b x).resolve_left (by omega)), ?_, ?_, ?_⟩
 · intro t ht
   obtain ⟨j, hj, rfl⟩ := List.getElem_of_mem ht
   obtain ⟨hj', c | c | c⟩ := get j hj
   · rw [c.2]; exact trivial
   · rw [c.2.2]; exact hr
   · rw [c.2.2]
     exact Rs.keep (H.inv _ (List.getElem_mem hj')) h (fun b x y => apart j q hj' l1 c.1 b x (by rw [e1]; exact y))
 · intro t ht b hb
   obtain ⟨j, hj, rfl⟩ := List.getElem_of_mem ht
   obtain ⟨hj', c | c | c⟩ := get j hj
   · rw [c.2] at hb; exact hb.elim
   · rw [c.2.2] at hb
     rcases hf b hb with h3 | h3 | h3
     · exact H.fp r mr b h3
     · exact H.fp s ms b h3
     · exact .inl (Nat.le_trans H.ch.size h3)
   · rw [c.2.2] at hb; exact H.fp _ (List.getElem_mem hj') b hb
 · rw [List.pairwise_iff_getElem]
   intro i j hi hj hij b x y
   obtain ⟨hi', c | c | c⟩ := get i hi
   · rw [c.2] at x; exact x
   · rw [c.2.2] at x
     obtain ⟨hj', d | d | d⟩ := get j hj
     · rw [d.2] at y; exact y
     · omega
     · rw [d.2.2] at y; exact D j hj' d.1 d.2.1 b x y
   · rw [c.2.2] at x
     obtain ⟨hj', d | d | d⟩ := get j hj
     · rw [d.2] at y; exact y
     · rw [d.2.2] at y; exact D i hi' c.1 c.2.1 b y x
     · rw [d.2.2] at y; exact apart i j hi' hj' (by omega) b x y
end
section
variable {α : Type}
def Rs.rows (e : Enc α) (Er Ev : TypeId) (v : Value) (us : List Sv) (ls : List (List α)) : Rs where
 fp := fun x => v.ownBlock = some x ∨ ∃ u ∈ us, (sv u).ownBlock = some x
 inv := fun w => (Rs.own Enc.slc Ev v us).inv w ∧ us.length = ls.length ∧ (∀ i u l, us[i]? = some u → ls[i]? = some l → (Rs.own e Er (sv u) l).inv w) ∧
   (∀ u ∈ us, ∀ b, (sv u).ownBlock = some b → v.ownBlock ≠ some b) ∧ us.Pairwise (fun u u' => ∀ b, (sv u).ownBlock = some b → (sv u').ownBlock ≠ some b)
 loc := fun w w' h ⟨h1, h2, h3, h4, h5⟩ => ⟨(Rs.own Enc.slc Ev v us).loc w w' (fun b hb => h b (.inl hb)) h1, h2,
   fun i u l hu hl => (Rs.own e Er (sv u) l).loc w w' (fun b hb => h b (.inr ⟨u, List.mem_of_getElem? hu, hb⟩)) (h3 i u l hu hl), h4, h5⟩
 bd := fun w ⟨h1, h2, h3, h4, h5⟩ x hx => by
   rcases hx with hx | ⟨u, hu, hx⟩
   · exact (Rs.own Enc.slc Ev v us).bd w h1 x hx
   · obtain ⟨i, hi, rfl⟩ := List.getElem_of_mem hu
     exact (Rs.own e Er (sv us[i]) ls[i]).bd w (h3 i _ _ (List.getElem?_eq_getElem hi) (List.getElem?_eq_getElem (by omega))) x hx
variable {e : Enc α} {Er Ev : TypeId} {v : Value} {us : List Sv} {ls : List (List α)} {w : World}
theorem rows_at {i : Int} (h : (Rs.rows e Er Ev v us ls).inv w) (h0 : 0 ≤ i) (h1 : i < ls.length) : us[i.toNat]? = some (at_ hz us i) ∧ ls[i.toNat]? = some (at_ [] ls i) ∧ (Rs.own e Er (sv (at_ hz us i)) (at_ [] ls i)).inv w := by
 have e1 := at_get hz (l := us) h0 (by rw [h.2.1]; exact h1)
 have e2 := at_get ([] : List α) h0 h1
 exact ⟨e1, e2, h.2.2.1 _ _ _ e1 e2⟩
theorem rows_rd (h : (Rs.rows e Er Ev v us ls).inv w) : Rd (.sl (.of e)) w (Rs.rows e Er Ev v us ls).fp v ls := by
 have hd := own_rd h.1
 obtain ⟨p, c, h1, h2, h3, h4⟩ := hd
 refine ⟨p, c, by rw [h1, h.2.1], by rw [← h.2.1]; exact h2, h3, ?_⟩
 rcases h4 with ⟨h5, h6, h7⟩ | ⟨b, o, h5, h6, h7⟩
 · exact .inl ⟨List.eq_nil_of_length_eq_zero (by rw [← h.2.1, h5]; rfl), h6, h7⟩
 · refine .inr ⟨b, o, h5, .inl h6, fun i l hl => ?_⟩
   have hi : i < us.length := by rw [h.2.1]; exact (List.getElem?_eq_some_iff.1 hl).1
   obtain ⟨cs, hc, hr⟩ := h7 i us[i] (List.getElem?_eq_getElem hi)
   have hc' : cs = [sv us[i]] := hc
   refine ⟨cs, ⟨sv us[i], hc', ?_⟩, hr⟩
   exact (own_rd (h.2.2.1 i _ _ (List.getElem?_eq_getElem hi) hl)).mono fun b hb => .inr ⟨us[i], List.getElem_mem hi, hb⟩
theorem row_rd {i : Int} (h : (Rs.rows e Er Ev v us ls).inv w) (h0 : 0 ≤ i) (h1 : i < ls.length) : Rd (.of e) w (Rs.rows e Er Ev v us ls).fp (sv (at_ hz us i)) (at_ [] ls i) := by
 obtain ⟨e1, e2, e3⟩ := rows_at h h0 h1
 exact (own_rd e3).mono fun b hb => .inr ⟨_, List.mem_of_getElem? e1, hb⟩
end
section
variable {P : Program} {ρ : Option Nat} {N : Nat} {Q : Exit → Fr → World → Prop} {t : Fr} {w w0 : World} {X : Nat → Prop} {L M : List Rs} {R : Value → World → Prop} {d : Option Nat} {ty T T' : TypeId} {ps : String} {af : Array Edge} {g : Option (Nat × Bool)} {x y : Operand} {α : Type} {e : Enc α} {Er Ev : TypeId} {v : Value} {us : List Sv} {ls : List (List α)}
theorem St.nilRows (H : St X w0 w L) (e : Enc α) (Er Ev : TypeId) : St X w0 w (L ++ [.rows e Er Ev (.slice none 0 0) [] []]) :=
 H.new (.refl _ _) ⟨⟨by simp [Enc.all], .inl ⟨rfl, rfl⟩⟩, rfl, fun i u l h => by simp at h, fun u h => by simp at h, .nil⟩ (fun b hb => by rcases hb with hb | ⟨u, hu, _⟩; cases hb; simp at hu)
theorem y_appRow {by_ : Nat} {zz : Value} {u : Value} {p : Option Addr} {n c : Nat} {l : List α} {F : Nat → Prop} (hT : Sl P T Ev 1 by_ zz) (H : St X w0 w L) (q q2 : Nat) (hq : L[q]? = some (.rows e Er Ev v us ls)) (hs : L[q2]? = some (.own e Er (.slice p n c) l)) (hne : (q == q2) = false)
   (hu : Rd (.of Enc.slc) w F u [(p, n, c)]) (hx : ev t x = v) (hy : ev t y = u) (hb : (ls.length + 1) * by_ ≤ 140737488355328) (h63 : ls.length + 1 ≤ maxLen)
   (h : ∀ v' us' w', St X w0 w' ((L.set q (.rows e Er Ev v' us' (ls ++ [l]))).set q2 .nul) → R v' w') : Yd P ρ N ⟨d, .call ⟨.builtin .append, #[x, y], #[T, T]⟩, ty, ps, af, g⟩ t w R := by
 have hi := H.get q hq
 have hl := H.get q2 hs
 have hap := H.apart q q2 (by simpa using hne) hq hs
 obtain ⟨v', w', h1, h2, h3, h4⟩ := run_app (ty := ty) hT hi.1 hu (by rw [hi.2.1]; exact hb) (by rw [hi.2.1]; exact h63)
 have hbd : ∀ u ∈ us, ∀ b, (sv u).ownBlock = some b → b < w.heap.size := fun u hu b hb => (Rs.rows e Er Ev v us ls).bd w hi b (.inr ⟨u, hu, hb⟩)
 have hbl : ∀ b, (sv (p, n, c)).ownBlock = some b → b < w.heap.size := fun b hb => (Rs.own e Er (.slice p n c) l).bd w hl b hb
 have hfr : ∀ b, v'.ownBlock = some b → v.ownBlock = some b ∨ w.heap.size ≤ b := h4
 refine y_val (v := v') (w' := w') ?_ (h v' (us ++ [(p, n, c)]) w' (H.absorb q q2 hq hs hne (h3.mono fun i _ hx => .inl hx) ⟨h2, by simp [hi.2.1], ?_, ?_, ?_⟩ ?_))
 · simp [execOp, resolve, invoke, builtin, hx, hy, h1]
 · intro i u' l' hu' hl'
   by_cases hlt : i < us.length
   · rw [List.getElem?_append_left hlt] at hu'
     rw [List.getElem?_append_left (by rw [← hi.2.1]; exact hlt)] at hl'
     exact Rs.keep (hi.2.2.1 i u' l' hu' hl') h3 (fun b hb hx => hi.2.2.2.1 u' (List.mem_of_getElem? hu') b hb hx)
   · have hi2 : i < us.length + 1 := by have := (List.getElem?_eq_some_iff.1 hu').1; simpa using this
     have : i = us.length := by omega
     subst this
     rw [List.getElem?_append_right (Nat.le_refl _), Nat.sub_self] at hu'
     rw [List.getElem?_append_right (by rw [hi.2.1]; exact Nat.le_refl _), hi.2.1, Nat.sub_self] at hl'
     simp at hu' hl'
     subst hu'; subst hl'
     exact Rs.keep hl h3 (fun b hb hx => hap b (.inl hx) hb)
 · intro u' hu' b hb hv'
   rcases hfr b hv' with h5 | h5
   · rcases List.mem_append.1 hu' with h6 | h6
     · exact hi.2.2.2.1 u' h6 b hb h5
     · rw [List.mem_singleton.1 h6] at hb
       exact hap b (.inl h5) hb
   · rcases List.mem_append.1 hu' with h6 | h6
     · have := hbd u' h6 b hb; omega
     · rw [List.mem_singleton.1 h6] at hb
       have := hbl b hb; omega
 · refine List.pairwise_append.2 ⟨hi.2.2.2.2, List.pairwise_singleton _ _, fun a ha b hb k h5 h6 => ?_⟩
   rw [List.mem_singleton.1 hb] at h6
   exact hap k (.inr ⟨a, ha, h5⟩) h6
 · intro b hb
   rcases hb with hb | ⟨u', hu', hb⟩
   · rcases hfr b hb with h5 | h5
     · exact .inl (.inl h5)
     · exact .inr (.inr h5)
   · rcases List.mem_append.1 hu' with h6 | h6
     · exact .inl (.inr ⟨u', h6, hb⟩)
     · rw [List.mem_singleton.1 h6] at hb
       exact .inr (.inl hb)
theorem r_ldRow {i : Int} (hT : Sc P T) (hi : (Rs.rows e Er Ev v us ls).inv w) (h0 : 0 ≤ i) (h1 : i < ls.length) (hx : ev t x = .pointer (adr v (i.toNat * 1))) : Rv P ⟨d, .load T x, ty, ps, af, g⟩ t w (sv (at_ hz us i)) :=
 r_ldE (j := 0) hT (own_rd hi.1) (rows_at hi h0 h1).1 rfl hx
theorem lit_hdr {b : Nat} {p : Option Addr} {n c : Nat} (h : (Rs.blk b #[.slice p n c] Ev).inv w) : Rd (.of Enc.slc) w (fun x => x = b) (.slice (some ⟨b, 0, none⟩) 1 1) [(p, n, c)] := by
 refine ⟨_, 1, rfl, Nat.le_refl _, by unfold maxLen; omega, .inr ⟨b, 0, rfl, rfl, fun i x hx => ?_⟩⟩
 match i with
 | 0 =>
   simp at hx
   subst hx
   refine ⟨_, rfl, fun j u hj => ?_⟩
   match j with
   | 0 =>
     have : u = .slice p n c := by simpa [Enc.slc, sv] using hj.symm
     subst this
     exact blk_cell h rfl
   | j + 1 => simp [Enc.slc] at hj
 | i + 1 => simp at hx
end
def Sco (Q : Exit → Fr → World → Prop) : Exit → Fr → World → Prop
 | .goto _, _, _ => False
 | e, t, w => Q e t w
section
variable {P : Program} {ρ : Option Nat} {N : Nat} {Q : Exit → Fr → World → Prop} {t : Fr} {w : World}
theorem stepR_scope {b : Frame} {a : Act} {k : List Item} {cs : List Frame} {c : Code} : step P (lone (b.atR a (.code (.scope c) :: k)) cs w) = .next (lone (b.atR a (.code c :: .inScope c :: k)) cs w) :=
 step_lone_go (by simp [stepG, stepG.exec, Frame.atR])
theorem stepR_inScope {b : Frame} {a : Act} {k : List Item} {cs : List Frame} {c : Code} : step P (lone (b.atR a (.inScope c :: k)) cs w) = .next (lone (b.atR a k) cs w) :=
 step_lone_go (by simp [stepG, stepG.exec, Frame.atR])
theorem wc_label {l : Nat} (h : Q .normal t w) : Wc P ρ N Q (.label l) t w := fun _ ha => wpIn_label ⟨t, ha, nofun, h⟩
theorem wc_scope {c : Code} (h : Wc P ρ N (Sco Q) c t w) : Wc P ρ N Q (.scope c) t w := by
 intro a ha b k cs hro hb hr
 have h0 : (lone (b.atR a (.code (.scope c) :: k)) cs w).fenced P (Fw ρ) := fenced_calm hb hr rfl
 obtain ⟨e, a₁, w₁, ⟨t', f1, np, hq⟩, harr⟩ := h a ha b (.inScope c :: k) cs hro hb hr
 cases e with
 | normal => exact ⟨.normal, a₁, w₁, ⟨t', f1, np, hq⟩, .head h0 stepR_scope (StepsIn.trans harr (.one (fenced_calm hb hr rfl) stepR_inScope))⟩
 | exit id =>
   have hx : exitTo id (.inScope c :: k) = exitTo id k := by simp [exitTo]
   exact ⟨_, a₁, w₁, ⟨t', f1, np, hq⟩, fun k' hk => .head h0 stepR_scope (harr.1 k' (by rw [hx]; exact hk)), fun hr' hk => let ⟨k₁, h1, h2⟩ := harr.2 hr' (by rw [hx]; exact hk); ⟨k₁, h1, .head h0 stepR_scope h2⟩⟩
 | goto l => exact hq.elim
 | ret => exact ⟨_, a₁, w₁, ⟨t', f1, np, hq⟩, .of_steps (.one h0 stepR_scope) harr⟩
 | panic ch => exact ⟨_, a₁, w₁, ⟨t', f1, np, hq⟩, .of_steps (.one h0 stepR_scope) harr⟩
 | outgrown => exact ⟨_, a₁, w₁, ⟨t', f1, np, hq⟩, .of_steps (.one h0 stepR_scope) harr⟩
theorem n_sc (h : Q .normal t w) : Sco Q .normal t w := h
theorem r_sc (h : Q .ret t w) : Sco Q .ret t w := h
end
section
variable {P : Program} {ρ : Option Nat} {N : Nat} {Q : Exit → Fr → World → Prop} {t : Fr} {w : World}
end
theorem St.start {r : Rs} {w : World} (h : r.inv w) : St r.fp w w [r] :=
 ⟨.refl _ _, by simpa using h, by simpa using fun b hb => .inr hb, List.pairwise_singleton _ _⟩
section
variable {P : Program} {ρ : Option Nat} {N : Nat} {Q : Exit → Fr → World → Prop} {t : Fr} {w w0 : World} {X : Nat → Prop} {L M : List Rs} {R : Value → World → Prop} {d : Option Nat} {ty T T' K E : TypeId} {ps : String} {af : Array Edge} {g : Option (Nat × Bool)} {x y z : Operand} {α : Type}
theorem eqn_p (n : Nat) {p : Addr} {E : TypeId} (hT : P.underlying T = some (.pointer E)) : (Op.equalIn (n + 1) T (.pointer (some p)) (.pointer none)).run P w = .ok false w := by
 simp [Op.equalIn, run_underlying hT]
def isF : TypeDesc → Bool
 | .func _ _ _ => true
 | _ => false
theorem eqn_f0 (n : Nat) {D : TypeDesc} (hT : P.underlying T = some D) (hD : isF D = true) : (Op.equalIn (n + 1) T .nilFunc .nilFunc).run P w = .ok true w := by
 cases D <;> simp [isF] at hD
 simp [Op.equalIn, run_underlying hT]
theorem eqn_f1 (n : Nat) {D : TypeDesc} {f : Fn} {u v : Array Value} (hT : P.underlying T = some D) (hD : isF D = true) : (Op.equalIn (n + 1) T (.func f u v) .nilFunc).run P w = .ok false w := by
 cases D <;> simp [isF] at hD
 simp [Op.equalIn, run_underlying hT]
theorem r_peql0 {p : Addr} {E : TypeId} (hT : P.underlying T = some (.pointer E)) (hx : ev t x = .pointer (some p)) (hy : ev t y = .pointer none) : Rv P ⟨d, .binOp .eql T x y T', ty, ps, af, g⟩ t w (.bool false) := by
 have h1 : (Op.equal T (.pointer (some p)) (.pointer none)).run P w = .ok false w := eqn_p 9999 hT
 unfold Rv; simp [execOp, hx, hy, eqGuard, binOp, Sem.run_bind, h1]
theorem r_feql0 {D : TypeDesc} (hT : P.underlying T = some D) (hD : isF D = true) (hx : ev t x = .nilFunc) (hy : ev t y = .nilFunc) : Rv P ⟨d, .binOp .eql T x y T', ty, ps, af, g⟩ t w (.bool true) := by
 have h1 : (Op.equal T (.nilFunc) (.nilFunc)).run P w = .ok true w := eqn_f0 9999 hT hD
 unfold Rv; simp [execOp, hx, hy, eqGuard, binOp, Sem.run_bind, h1]
theorem r_feql1 {D : TypeDesc} {f : Fn} {u v : Array Value} (hT : P.underlying T = some D) (hD : isF D = true) (hx : ev t x = .func f u v) (hy : ev t y = .nilFunc) : Rv P ⟨d, .binOp .eql T x y T', ty, ps, af, g⟩ t w (.bool false) := by
 have h1 : (Op.equal T (.func f u v) (.nilFunc)).run P w = .ok false w := eqn_f1 9999 hT hD
 unfold Rv; simp [execOp, hx, hy, eqGuard, binOp, Sem.run_bind, h1]
theorem r_pneq0 {p : Addr} {E : TypeId} (hT : P.underlying T = some (.pointer E)) (hx : ev t x = .pointer (some p)) (hy : ev t y = .pointer none) : Rv P ⟨d, .binOp .neq T x y T', ty, ps, af, g⟩ t w (.bool true) := by
 have h1 : (Op.equal T (.pointer (some p)) (.pointer none)).run P w = .ok false w := eqn_p 9999 hT
 unfold Rv; simp [execOp, hx, hy, eqGuard, binOp, Sem.run_bind, h1]
theorem r_fneq0 {D : TypeDesc} (hT : P.underlying T = some D) (hD : isF D = true) (hx : ev t x = .nilFunc) (hy : ev t y = .nilFunc) : Rv P ⟨d, .binOp .neq T x y T', ty, ps, af, g⟩ t w (.bool false) := by
 have h1 : (Op.equal T (.nilFunc) (.nilFunc)).run P w = .ok true w := eqn_f0 9999 hT hD
 unfold Rv; simp [execOp, hx, hy, eqGuard, binOp, Sem.run_bind, h1]
theorem r_fneq1 {D : TypeDesc} {f : Fn} {u v : Array Value} (hT : P.underlying T = some D) (hD : isF D = true) (hx : ev t x = .func f u v) (hy : ev t y = .nilFunc) : Rv P ⟨d, .binOp .neq T x y T', ty, ps, af, g⟩ t w (.bool true) := by
 have h1 : (Op.equal T (.func f u v) (.nilFunc)).run P w = .ok false w := eqn_f1 9999 hT hD
 unfold Rv; simp [execOp, hx, hy, eqGuard, binOp, Sem.run_bind, h1]
theorem r_mkF {fn : Fn} {xs ys : Array Operand} (us vs : List Value) (hx : xs.toList.map (ev t) = us) (hy : ys.toList.map (ev t) = vs) : Rv P ⟨d, .makeFunc fn xs ys, ty, ps, af, g⟩ t w (.func fn us.toArray vs.toArray) := by
 have e1 : xs.map (ev t) = us.toArray := by subst hx; apply Array.ext'; simp
 have e2 : ys.map (ev t) = vs.toArray := by subst hy; apply Array.ext'; simp
 rw [← e1, ← e2]; rfl
theorem y_callvF {f : FuncId} {xs : Array Operand} {ats : Array TypeId} {vs : List Value} {fi cap : Array Value} (hx : ev t x = .func (.func f) fi cap) (hf : En P f) (hv : fi.toList ++ xs.toList.map (ev t) ++ cap.toList = vs) (h : Calls P f vs.toArray w fun e w'' => ∃ v, e = .returned v ∧ R v w'') :
   Yd P ρ N ⟨d, .call ⟨.value x, xs, ats⟩, ty, ps, af, g⟩ t w R := by
 refine y_enter (f := f) (args := vs.toArray) (w' := w) ?_ h
 have e : fi ++ xs.map (ev t) ++ cap = vs.toArray := by subst hv; apply Array.ext'; simp
 simp only [execOp, resolve, Deferred.ofValue, hx, Sem.run_bind, Sem.run_pure, Result.andThen_ok, invoke, e, run_callFunc_en hf]
theorem y_inF {f : FuncId} {fn : Func} {c : Code} {xs : Array Operand} {ats : Array TypeId} {fi cap : Array Value} (n : Nat) (vs : List Value) (hx : ev t x = .func (.func f) fi cap) (hf : En P f) (h1 : P.funcs[f]? = some fn) (h2 : fn.body = some c) (h3 : fn.ntmps = n) (h4 : Nat.ble vs.length n = true) (hv : fi.toList ++ xs.toList.map (ev t) ++ cap.toList = vs)
   (h : Wc P none n (Fini P n fn R) c (t0 vs) w) (hs : Nat.ble n 1000000 = true := by rfl) : Yd P ρ N ⟨d, .call ⟨.value x, xs, ats⟩, ty, ps, af, g⟩ t w R :=
 y_callvF hx hf hv (calls_in h1 h2 h3 (Nat.le_of_ble_eq_true h4) hs h)
def Ba (P : Program) (T : TypeId) (n sz : Nat) (cs : Array Value) : Prop :=
 ∃ E v, P.underlying T = some (.array n E) ∧ (P.info? T).bind (·.zero) = some v ∧ v.cells = cs ∧ (P.info? E).map (·.size) = some sz ∧ Sc P E
theorem r_buildA {parts : Array (Nat × Operand)} {cs0 : Array Value} {n sz : Nat} {cs : List Value} (hB : Ba P T n sz cs0) (hf : Instr.fill (fun i => some (i * sz, sz)) cs0 (parts.toList.map fun p => (p.1, ev t p.2)) = some cs.toArray) :
   Rv P ⟨d, .build T parts, ty, ps, af, g⟩ t w (.agg cs.toArray) := by
 obtain ⟨E, v, h1, h2, h3, h4, _⟩ := hB
 unfold Rv
 cases hi : P.info? T with
 | none => simp [hi] at h2
 | some i =>
   have hz : i.zero = some v := by simpa [hi] using h2
   have hzv : (zeroValue T).run P w = .ok v w := by simp [zeroValue, typeInfo, hi, hz]
   cases hj : P.info? E with
   | none => simp [hj] at h4
   | some j =>
     have hs : j.size = sz := by simpa [hj] using h4
     have hsz : (sizeOf E).run P w = .ok sz w := by simp [sizeOf, typeInfo, hj, hs]
     have e : (Array.map (fun x => match x with | (i, x) => (i, ev t x)) parts).toList = parts.toList.map fun p => (p.1, ev t p.2) := by simp
     have hfl : Instr.fill (fun i => some (i * sz, sz)) v.cells (Array.map (fun x => match x with | (i, x) => (i, ev t x)) parts).toList = some cs.toArray := by
       rw [e, h3]; exact hf
     simp only [execOp, Instr.build, Sem.run_bind, hzv, Result.andThen_ok, run_underlying h1, hsz, hfl]
     rfl
theorem r_idxA {k : IntKind} {n : Nat} {i : Int} {cs0 cs : Array Value} {v : Value} (hB : Ba P T n 1 cs0) (hx : ev t x = .agg cs) (hy : ev t y = .int k i) (h0 : 0 ≤ i) (h1 : i < n) (hv : cs[i.toNat]? = some v) :
   Rv P ⟨d, .index T x y, ty, ps, af, g⟩ t w v := by
 obtain ⟨E, z, h2, h3, h4, h5, D, h6, h7⟩ := hB
 unfold Rv
 cases hj : P.info? E with
 | none => simp [hj] at h5
 | some j =>
   have hs : j.size = 1 := by simpa [hj] using h5
   have hsz : (sizeOf E).run P w = .ok 1 w := by simp [sizeOf, typeInfo, hj, hs]
   have hagg : (isAgg E).run P w = .ok false w := by
     unfold isAgg
     rw [Sem.run_bind, run_underlying h6 w]
     cases D <;> simp_all
   have hp : (part E cs (i.toNat * 1)).run P w = .ok v w := by
     simp [part, Sem.run_bind, hagg, hv]
   simp only [execOp, hx, hy, Instr.index, asIntOf, Sem.run_bind, Sem.run_pure, Result.andThen_ok, run_underlying h2, h0, h1, and_self, if_true, hsz, hp]
def sat (s : ByteArray) (i : Int) : Int := ((s.data.getD i.toNat 0).toNat : Nat)
theorem r_idxS {k : IntKind} {s : ByteArray} {i : Int} (hT : P.underlying T = some .string) (hx : ev t x = .string s) (hy : ev t y = .int k i) (h0 : 0 ≤ i) (h1 : i < (s.size : Int)) : Rv P ⟨d, .index T x y, ty, ps, af, g⟩ t w (.int .u8 (sat s i)) := by
 have hlt : i.toNat < s.size := by omega
 have hlt' : i.toNat < s.data.size := hlt
 have hg : s[i.toNat]? = some (s[i.toNat]'hlt) := getElem?_pos s i.toNat hlt
 have hv : sat s i = ((s[i.toNat]'hlt).toNat : Nat) := by
   unfold sat; rw [Array.getD_eq_getD_getElem?, Array.getElem?_eq_getElem hlt']; rfl
 unfold Rv
 simp [execOp, hx, hy, Instr.index, asIntOf, run_underlying hT, Sem.run_bind, h0, hg, hv]
theorem r_lenS {s : ByteArray} {TS : Array TypeId} (hT : (TS[0]?).bind P.underlying = some .string) (hx : ev t x = .string s) : Rv P ⟨d, .call ⟨.builtin .len, #[x], TS⟩, ty, ps, af, g⟩ t w (.int .i64 s.size) := by
 cases h0 : TS[0]? with
 | none => simp [h0] at hT
 | some T0 =>
   have hT' : P.underlying T0 = some .string := by simpa [h0] using hT
   unfold Rv
   simp [execOp, resolve, invoke, builtin, hx, Builtin.len_, h0, run_underlying hT', goInt, go_sem]
end
def cpy {α : Type} (lo n : Nat) (m l : List α) : List α := l.take lo ++ m.take n ++ l.drop (lo + (m.take n).length)
theorem cpy_length {α : Type} {lo n : Nat} (m : List α) {l : List α} (h : lo + n ≤ l.length) : (cpy lo n m l).length = l.length := by
 simp [cpy]; omega
@[simp] theorem cpy_len0 {α : Type} (m l : List α) : (cpy 0 l.length m l).length = l.length := cpy_length m (by simp)
section
variable {P : Program} {ρ : Option Nat} {N : Nat} {Q : Exit → Fr → World → Prop} {t : Fr} {w w0 : World} {X : Nat → Prop} {L M : List Rs} {R : Value → World → Prop} {d : Option Nat} {ty T T' K E : TypeId} {ps : String} {af : Array Edge} {g : Option (Nat × Bool)} {x y z : Operand} {α : Type}
theorem all_map {e : Enc α} (he : e.sz = 1) : ∃ f : α → Value, ∀ l, e.all l = l.map f := by
 refine ⟨fun a => (e.en a).headD undef, fun l => ?_⟩
 induction l with
 | nil => rfl
 | cons a l ih =>
   rw [List.map_cons, ← ih]
   simp only [Enc.all, List.flatMap_cons]
   have h := e.len a
   rw [he] at h
   match hh : e.en a, h with
   | [v], _ => rfl
theorem own_at {e : Enc α} {E : TypeId} {v : Value} {l : List α} (h : (Rs.own e E v l).inv w) (hl : 0 < l.length) :
   ∃ b cap cur, v = .slice (some ⟨b, 0, none⟩) l.length cap ∧ w.heap[b]? = some (.cells cur E (0, 0)) ∧ l.length ≤ cap ∧ cap ≤ maxLen ∧ cur.size = cap * e.sz ∧ cur.toList.take (l.length * e.sz) = e.all l := by
 rcases h.2 with ⟨_, h3⟩ | ⟨b, cap, cur, hv, _, hh, h4, h5, h6, h7⟩
 · omega
 · exact ⟨b, cap, cur, hv, hh, h4, h5, h6, h7⟩
theorem put_mid {A vs B : List Value} {lo n : Nat} (hB : A.take n = B) (hn : B.length = n) (h : lo + vs.length ≤ n) :
   (A.take lo ++ vs ++ A.drop (lo + vs.length)).take n = B.take lo ++ vs ++ B.drop (lo + vs.length) := by
 obtain ⟨C, rfl⟩ : ∃ C, A = B ++ C := ⟨A.drop n, by rw [← hB, List.take_append_drop]⟩
 have e1 : (B ++ C).take lo = B.take lo := List.take_append_of_le_length (by omega)
 have e2 : (B ++ C).drop (lo + vs.length) = B.drop (lo + vs.length) ++ C := List.drop_append_of_le_length (by omega)
 rw [e1, e2, ← List.append_assoc]
 exact List.take_left' (by simp; omega)
theorem own_cpy {e : Enc α} (he : e.sz = 1) {E : TypeId} {b cap : Nat} {cur : Array Value} {l m : List α} {lo n : Nat} (hh : w.heap[b]? = some (.cells cur E (0, 0))) (h4 : l.length ≤ cap) (h5 : cap ≤ maxLen) (h6 : cur.size = cap * e.sz) (h7 : cur.toList.take (l.length * e.sz) = e.all l)
   (hlo : lo + n ≤ l.length) : (Rs.own e E (.slice (some ⟨b, 0, none⟩) l.length cap) (cpy lo n m l)).inv (w.setCells b lo (e.all (m.take n))) := by
 obtain ⟨f, hf⟩ := all_map he
 rw [he, Nat.mul_one] at h6 h7
 have hl : (cpy lo n m l).length = l.length := cpy_length m hlo
 have hk : (e.all (m.take n)).length = (m.take n).length := by rw [hf]; simp
 have hset := blk_setL (e.all (m.take n)) lo cur w (show (Rs.blk b cur E).inv w from hh)
 have hle : (m.take n).length ≤ n := by simp; omega
 refine ⟨e.all_len _, .inr ⟨b, cap, setL cur lo (e.all (m.take n)), by rw [hl], Nat.zero_le _, hset, by rw [hl]; exact h4, h5, by rw [setL_size, he, Nat.mul_one]; exact h6, ?_⟩⟩
 rw [he, Nat.mul_one, hl, setL_list _ _ _ (by rw [hk]; omega), put_mid h7 (by rw [hf]; simp) (by rw [hk]; omega), hk]
 rw [hf, hf, hf]
 simp [cpy, List.map_take, List.map_drop]
theorem run_copyO {e : Enc α} (he : e.sz = 1) {by_ : Nat} {zz : Value} {E' : TypeId} {v u : Value} {l m : List α} {F : Nat → Prop} {lo n : Nat} (hT : Sl P T E e.sz by_ zz) (hv : (Rs.own e E' v l).inv w) (hu : Rd (.of e) w F u m)
   (hlo : lo + n ≤ l.length) {dv : Value} (hd : ∃ c, dv = .slice (match v with | .slice p _ _ => if c = 0 then p else p.map (·.add (lo * 1)) | _ => none) n c ∧ (c = 0 → n = 0)) :
   ∃ w', (Builtin.copy_ #[T, T] ty #[dv, u]).run P w = .ok (.int .i64 (min m.length n : Nat)) w' ∧ (Rs.own e E' v (cpy lo n m l)).inv w' ∧ Ch (Rs.own e E' v l).fp w w' := by
 obtain ⟨t1, i, t2, t3, t4, t5, t6, t7⟩ := hT
 have hsz : (P.info? E).map (·.size) = some 1 := by rw [t2]; simp [t3, he]
 obtain ⟨c, rfl, hc0⟩ := hd
 obtain ⟨p, cu, h1, h2, h3, h4⟩ := id hu
 by_cases hz : min m.length n = 0
 · refine ⟨w, ?_, ?_, .refl _ _⟩
   · rw [h1, run_copy_none (P := P) w T T ty E _ _ _ _ _ _ t1 hsz (by exact hz)]
     rw [hz]; rfl
   · have : cpy lo n m l = l := by
       have : m.take n = [] := by
         rcases Nat.min_eq_zero_iff.1 hz with h | h
         · rw [List.length_eq_zero_iff.1 h]; simp
         · rw [h]; simp
       simp [cpy, this]
     rw [this]; exact hv
 · have hn0 : 0 < n := by omega
   have hm0 : 0 < m.length := by omega
   have hc : c ≠ 0 := fun h => by have := hc0 h; omega
   obtain ⟨b, cap, cur, hv', hh, k4, k5, k6, k7⟩ := own_at hv (by omega)
   subst hv'
   cases p with
   | none =>
     rcases h4 with ⟨h4, _⟩ | ⟨b', o, h4, _⟩
     · subst h4; simp at hm0
     · cases h4
   | some a =>
     obtain ⟨_, hcells⟩ := hu.cells t7 h1
     obtain ⟨f, hf⟩ := all_map he
     have hlen : (e.all (m.take n)).length = Nat.min m.length n := by rw [hf]; simp; exact Nat.min_comm _ _
     have hlen' : (e.all (m.take n)).length ≤ n := by rw [hlen]; exact Nat.min_le_right _ _
     have hk6 : cur.size = cap := by rw [k6, he, Nat.mul_one]
     have hblk : (Rs.blk b cur E').inv w := hh
     have hr := run_copy_cells (P := P) w T T ty E b lo n c a m.length cu (e.all (m.take n)) t1 hsz hlen
       (fun j x hx => hcells j x (by
         have hj := (List.getElem?_eq_some_iff.1 hx).1
         rw [hf] at hx ⊢
         rw [List.map_take, List.getElem?_take] at hx
         split at hx
         · exact hx
         · cases hx))
       (fun j hj => by rw [blk_cell hblk (Array.getElem?_eq_getElem (by omega))]; rfl) (fun j hj => blk_frozen hblk) (fun x hx => e.all_one _ x hx)
     refine ⟨w.setCells b lo (e.all (m.take n)), ?_, own_cpy he hh k4 k5 k6 k7 hlo, ?_⟩
     · rw [h1]
       simp only [if_neg hc, Option.map_some, Addr.add_mid, Nat.mul_one, Nat.zero_add]
       rw [hr, hlen]; rfl
     · exact (ch_setL (b := b) (e.all (m.take n)) lo w).mono fun x _ hx => by show (some b : Option Nat) = some x; rw [hx]
theorem y_copy {e : Enc α} {by_ : Nat} {zz : Value} {E' : TypeId} {v u : Value} {l m : List α} {F : Nat → Prop} (hT : Sl P T E e.sz by_ zz) (H : St X w0 w L) (q : Nat) (hq : L[q]? = some (.own e E' v l)) (hu : Rd (.of e) w F u m)
   (hx : ev t x = v) (hy : ev t y = u) (h : ∀ w', St X w0 w' (L.set q (.own e E' v (cpy 0 l.length m l))) → R (.int .i64 (min m.length l.length : Nat)) w') (he : e.sz = 1 := by rfl) : Yd P ρ N ⟨d, .call ⟨.builtin .copy, #[x, y], #[T, T]⟩, ty, ps, af, g⟩ t w R := by
 have hv := H.get q hq
 have hd : ∃ c, v = .slice (match v with | .slice p _ _ => if c = 0 then p else p.map (·.add (0 * 1)) | _ => none) l.length c ∧ (c = 0 → l.length = 0) := by
   rcases hv.2 with ⟨h3, h4⟩ | ⟨b, cap, cur, h3, _, _, h4, _⟩
   · rw [h3, h4]; exact ⟨0, by simp, fun _ => rfl⟩
   · rw [h3]; refine ⟨cap, ?_, fun h => by omega⟩
     by_cases hc : cap = 0
     · simp [hc]
     · simp [hc, Addr.add_mid]
 obtain ⟨w', h1, h2, h3⟩ := run_copyO (ty := ty) he hT hv hu (lo := 0) (n := l.length) (by omega) hd
 refine y_val (v := .int .i64 (min m.length l.length : Nat)) (w' := w') ?_ (h w' (H.put q hq h3 h2 (fun b hb => .inl hb)))
 simp only [execOp, resolve, invoke, Sem.run_bind, Sem.run_pure, Result.andThen_ok, List.map_toArray, List.map_cons, List.map_nil, hx, hy]
 simp only [builtin, Sem.run_bind, h1]; rfl
theorem y_copyP {e : Enc α} {by_ : Nat} {zz : Value} {E' : TypeId} {v u : Value} {l m : List α} {F : Nat → Prop} {lo hi : Nat} (h0 : lo ≤ hi) (h1 : hi ≤ l.length) (hT : Sl P T E e.sz by_ zz) (H : St X w0 w L) (q : Nat) (hq : L[q]? = some (.own e E' v l)) (hu : Rd (.of e) w F u m)
   (hx : ev t x = slv v lo hi 1) (hy : ev t y = u) (h : ∀ w', St X w0 w' (L.set q (.own e E' v (cpy lo (hi - lo) m l))) → R (.int .i64 (min m.length (hi - lo) : Nat)) w') (he : e.sz = 1 := by rfl) : Yd P ρ N ⟨d, .call ⟨.builtin .copy, #[x, y], #[T, T]⟩, ty, ps, af, g⟩ t w R := by
 have hv := H.get q hq
 have hd : ∃ c, slv v lo hi 1 = .slice (match v with | .slice p _ _ => if c = 0 then p else p.map (·.add (lo * 1)) | _ => none) (hi - lo) c ∧ (c = 0 → hi - lo = 0) := by
   rcases hv.2 with ⟨h3, h4⟩ | ⟨b, cap, cur, h3, _, _, h4, _⟩
   · rw [h3]; refine ⟨0 - lo, ?_, fun _ => by omega⟩
     have : lo = 0 := by omega
     subst this; simp [slv]
   · rw [h3]; refine ⟨cap - lo, ?_, fun h => by omega⟩
     by_cases hc : cap = lo
     · simp [slv, hc]
     · have : ¬ cap - lo = 0 := by omega
       simp [slv, hc, this]
 obtain ⟨w', h1', h2, h3⟩ := run_copyO (ty := ty) he hT hv hu (lo := lo) (n := hi - lo) (by omega) hd
 refine y_val (v := .int .i64 (min m.length (hi - lo) : Nat)) (w' := w') ?_ (h w' (H.put q hq h3 h2 (fun b hb => .inl hb)))
 simp only [execOp, resolve, invoke, Sem.run_bind, Sem.run_pure, Result.andThen_ok, List.map_toArray, List.map_cons, List.map_nil, hx, hy]
 simp only [builtin, Sem.run_bind, h1']; rfl
theorem y_copyP3 {e : Enc α} {by_ : Nat} {zz : Value} {E' : TypeId} {v u : Value} {l m : List α} {F : Nat → Prop} {lo hi mx : Nat} (h0 : lo ≤ hi) (hm : hi ≤ mx) (h1 : mx ≤ l.length) (hT : Sl P T E e.sz by_ zz) (H : St X w0 w L) (q : Nat) (hq : L[q]? = some (.own e E' v l)) (hu : Rd (.of e) w F u m)
   (hx : ev t x = slv3 v lo hi mx 1) (hy : ev t y = u) (h : ∀ w', St X w0 w' (L.set q (.own e E' v (cpy lo (hi - lo) m l))) → R (.int .i64 (min m.length (hi - lo) : Nat)) w') (he : e.sz = 1 := by rfl) : Yd P ρ N ⟨d, .call ⟨.builtin .copy, #[x, y], #[T, T]⟩, ty, ps, af, g⟩ t w R := by
 have hv := H.get q hq
 have hd : ∃ c, slv3 v lo hi mx 1 = .slice (match v with | .slice p _ _ => if c = 0 then p else p.map (·.add (lo * 1)) | _ => none) (hi - lo) c ∧ (c = 0 → hi - lo = 0) := by
   refine ⟨mx - lo, ?_, fun h => by omega⟩
   rcases hv.2 with ⟨h3, h4⟩ | ⟨b, cap, cur, h3, _, _, h4, _⟩
   · rw [h3]; simp [slv3]
   · rw [h3]
     by_cases hc : mx = lo
     · simp [slv3, hc]
     · have : ¬ mx - lo = 0 := by omega
       simp [slv3, hc, this]
 obtain ⟨w', h1', h2, h3⟩ := run_copyO (ty := ty) he hT hv hu (lo := lo) (n := hi - lo) (by omega) hd
 refine y_val (v := .int .i64 (min m.length (hi - lo) : Nat)) (w' := w') ?_ (h w' (H.put q hq h3 h2 (fun b hb => .inl hb)))
 simp only [execOp, resolve, invoke, Sem.run_bind, Sem.run_pure, Result.andThen_ok, List.map_toArray, List.map_cons, List.map_nil, hx, hy]
 simp only [builtin, Sem.run_bind, h1']; rfl
theorem wc_drawnW {id n : Nat} {l : List Oper} {ds : List Nat} (S : World → Prop) (hm : P.follows .mixedOrders = true) (_H : St X w0 w L) (hn : l.length = n) {l0 : Array Bool} (hl : Array.replicate n false = l0)
   (h : Wa P ρ N l.toArray Q S ds n l0 t w.drew) : Wc P ρ N Q (.region id l.toArray true) t w := by subst hl; exact wc_drawn hm hn h
theorem r_slcLRe {κ : Kd α} {E by_ : Nat} {zz : Value} {F : Nat → Prop} {v : Value} {l l' : List α} {lo : Int} {k : IntKind} (e : l'.length = l.length) (hT : Sl P T E κ.sz by_ zz) (h : Rd κ w F v l') (hx : ev t x = v) (hy : ev t y = .int k lo) (h1 : 0 ≤ lo) (h2 : lo ≤ l.length) :
   Rv P ⟨d, .slice T x (some y) none none, ty, ps, af, g⟩ t w (slv v lo.toNat l.length κ.sz) := by
 rw [← e] at h2 ⊢; exact r_slcLR hT h hx hy h1 h2
theorem r_slcHRe {κ : Kd α} {E by_ : Nat} {zz : Value} {F : Nat → Prop} {v : Value} {l l' : List α} {hi : Int} {k' : IntKind} (e : l'.length = l.length) (hT : Sl P T E κ.sz by_ zz) (h : Rd κ w F v l') (hx : ev t x = v) (hz : ev t z = .int k' hi) (h1 : 0 ≤ hi) (h2 : hi ≤ l.length) :
   Rv P ⟨d, .slice T x none (some z) none, ty, ps, af, g⟩ t w (slv v 0 hi.toNat κ.sz) := by
 rw [← e] at h2; exact r_slcHR hT h hx hz h1 h2
theorem adr_slv3 {e : Enc α} {E' : TypeId} {v : Value} {l : List α} (hv : (Rs.own e E' v l).inv w) {lo hi mx n : Nat} (h0 : lo < hi) (hm : hi ≤ mx) (h1 : mx ≤ l.length) : adr (slv3 v lo hi mx 1) n = adr v (lo + n) := by
 obtain ⟨b, cap, cur, hv', hh, k4, k5, k6, k7⟩ := own_at hv (by omega)
 subst hv'
 have : ¬ mx = lo := by omega
 simp [slv3, adr, this, Addr.add_mid]
theorem y_storeP3 {E : TypeId} {k : IntKind} {v : Value} {l : List Int} {i u : Int} {lo hi mx : Nat} (hT : Sz P T 1) (H : St X w0 w L) (q : Nat) (hk : L[q]? = some (.own (.int k) E v l)) (p1 : lo ≤ hi) (p3 : hi ≤ mx) (p2 : mx ≤ l.length) (h0 : 0 ≤ i) (h1 : i < (((l.take hi).drop lo).length : Int))
   (hx : ev t x = .pointer (adr (slv3 v lo hi mx 1) (i.toNat * 1))) (hy : ev t y = .int k u) (h : ∀ w', St X w0 w' (L.set q (.own (.int k) E v (l.set (lo + i.toNat) u))) → R undef w') : Yd P ρ N ⟨d, .store T x y, ty, ps, af, g⟩ t w R := by
 have h1' : i < (hi - lo : Nat) := by simpa [Nat.min_eq_left (Nat.le_trans p3 p2)] using h1
 rw [adr_slv3 (H.get q hk) (by omega) p3 p2] at hx
 have e : (((lo : Int) + i).toNat) = lo + i.toNat := by omega
 refine y_storeI (i := (lo : Int) + i) hT H q hk (by omega) (by omega) (by rw [hx, e, Nat.mul_one, Nat.mul_one]) hy (fun w' H => h w' (by rw [e] at H; exact H))
end
def Rs.mf (b : Nat) (l : List (Value × Value)) : Rs where
 fp := fun x => x = b
 inv := fun w => ∃ es clock, w.heap[b]? = some (.map es clock) ∧ es.toList.map (fun e => (e.key, e.val)) = l
 loc := fun w w' h ⟨es, c, hb, hl⟩ => ⟨es, c, (h b rfl).trans hb, hl⟩
 bd := fun w ⟨es, c, h, _⟩ x e => by subst e; exact (Array.getElem?_eq_some_iff.1 h).1
theorem bb (a b : ByteArray) : (a == b) = decide (a = b) := by
 cases a with | mk x => cases b with | mk y =>
 have h : (ByteArray.mk x == ByteArray.mk y) = (x == y) := rfl
 rw [h]
 by_cases e : x = y
 · subst e; simp
 · simp [e]
def lkI (a : Int) : List (Value × Value) → Value
 | (.int .i64 b, v) :: l => bif decide (a = b) then v else lkI a l
 | _ => .nilFunc
def lkS (a : ByteArray) : List (Value × Value) → Value
 | (.string b, v) :: l => bif decide (a = b) then v else lkS a l
 | _ => .nilFunc
def intKs : List (Value × Value) → Bool
 | [] => true
 | (.int .i64 _, _) :: l => intKs l
 | _ => false
def strKs : List (Value × Value) → Bool
 | [] => true
 | (.string _, _) :: l => strKs l
 | _ => false
def newI (a : Int) : List (Value × Value) → Bool
 | [] => true
 | (.int .i64 b, _) :: l => !decide (a = b) && newI a l
 | _ => false
def newS (a : ByteArray) : List (Value × Value) → Bool
 | [] => true
 | (.string b, _) :: l => !decide (a = b) && newS a l
 | _ => false
theorem find_I (a : Int) : ∀ (es : List MapEntry) (i : Nat), intKs (es.map fun e => (e.key, e.val)) = true → ∃ r, Instr.findNow (.int .i64) (.int .i64 a) es i = some r ∧ (match r with | some (_, v) => v | none => .nilFunc) = lkI a (es.map fun e => (e.key, e.val))
 | [], i, _ => ⟨none, rfl, rfl⟩
 | ⟨k, v, bn⟩ :: es, i, h => by
   simp only [List.map_cons] at h ⊢
   match k, h with
   | .int .i64 b, h =>
     obtain ⟨r, h1, h2⟩ := find_I a es (i + 1) h
     simp only [Instr.findNow, Instr.sameNow, if_true, lkI]
     by_cases hab : a = b
     · subst hab; simp
     · simp only [hab, decide_false, cond_false]
       have : (a == b) = false := by simpa using hab
       rw [this]; exact ⟨r, h1, h2⟩
theorem find_S (a : ByteArray) : ∀ (es : List MapEntry) (i : Nat), strKs (es.map fun e => (e.key, e.val)) = true → ∃ r, Instr.findNow .string (.string a) es i = some r ∧ (match r with | some (_, v) => v | none => .nilFunc) = lkS a (es.map fun e => (e.key, e.val))
 | [], i, _ => ⟨none, rfl, rfl⟩
 | ⟨k, v, bn⟩ :: es, i, h => by
   simp only [List.map_cons] at h ⊢
   match k, h with
   | .string b, h =>
     obtain ⟨r, h1, h2⟩ := find_S a es (i + 1) h
     simp only [Instr.findNow, Instr.sameNow, lkS, bb]
     by_cases hab : a = b
     · subst hab; simp
     · simp only [hab, decide_false, cond_false]
       exact ⟨r, h1, h2⟩
theorem miss_I (a : Int) : ∀ (es : List MapEntry) (i : Nat), newI a (es.map fun e => (e.key, e.val)) = true → Instr.findNow (.int .i64) (.int .i64 a) es i = some none
 | [], i, _ => rfl
 | ⟨k, v, bn⟩ :: es, i, h => by
   simp only [List.map_cons] at h
   match k, h with
   | .int .i64 b, h =>
     simp only [newI, Bool.and_eq_true, Bool.not_eq_true', decide_eq_false_iff_not] at h
     have : (a == b) = false := by simpa using h.1
     simp only [Instr.findNow, Instr.sameNow, if_true, this]
     exact miss_I a es (i + 1) h.2
theorem miss_S (a : ByteArray) : ∀ (es : List MapEntry) (i : Nat), newS a (es.map fun e => (e.key, e.val)) = true → Instr.findNow .string (.string a) es i = some none
 | [], i, _ => rfl
 | ⟨k, v, bn⟩ :: es, i, h => by
   simp only [List.map_cons] at h
   match k, h with
   | .string b, h =>
     simp only [newS, Bool.and_eq_true, Bool.not_eq_true', decide_eq_false_iff_not] at h
     have : (a == b) = false := by rw [bb]; simpa using h.1
     simp only [Instr.findNow, Instr.sameNow, this]
     exact miss_S a es (i + 1) h.2
section
variable {P : Program} {ρ : Option Nat} {N : Nat} {Q : Exit → Fr → World → Prop} {t : Fr} {w w0 : World} {X : Nat → Prop} {L M : List Rs} {R : Value → World → Prop} {d : Option Nat} {ty T T' K E : TypeId} {ps : String} {af : Array Edge} {g : Option (Nat × Bool)} {x y z : Operand} {α : Type}
theorem y_mkMf (H : St X w0 w L) (h : ∀ b w', St X w0 w' (L ++ [.mf b []]) → R (.map (some b)) w') : Yd P ρ N ⟨d, .makeMap T none, ty, ps, af, g⟩ t w R :=
 y_val (v := .map (some w.heap.size)) (w' := w.alloc (.map #[] 0)) (by simp only [execOp, Option.map_none]; rfl)
   (h _ _ (H.new (.alloc _ _ _) ⟨#[], 0, by show (w.heap.push _)[w.heap.size]? = _; simp, rfl⟩ (fun b e => by simp only [Rs.mf] at e; omega)))
theorem ck_run {D : TypeDesc} (hK : P.underlying K = some D) (hD : D = .int .i64 ∨ D = .string) (n : Nat) (c : Bool) (k : Value) : (Instr.checkKey c (n + 1) K k).run P w = .ok () w := by
 rcases hD with rfl | rfl <;> simp [Instr.checkKey, run_underlying hK, Sem.run_bind]
theorem ins_run {b : Nat} {l : List (Value × Value)} {k v : Value} {D : TypeDesc} (hK : P.underlying K = some D) (hT : P.underlying T = some (.map K E)) (hD : D = .int .i64 ∨ D = .string) (hm : (Rs.mf b l).inv w) (hf : ∀ es : List MapEntry, es.map (fun e => (e.key, e.val)) = l → Instr.findNow D k es 0 = some none) :
   ∃ w', (Instr.mapUpdate T (.map (some b)) k v).run P w = .ok () w' ∧ (Rs.mf b (l ++ [(k, v)])).inv w' ∧ Ch (fun x => x = b) w w' := by
 obtain ⟨es, c, hb, hl⟩ := hm
 have hck : (Instr.checkKey false 10000 K k).run P w = .ok () w := ck_run hK hD 9999 _ _
 have hfk : (Instr.findKey K k es.toList).run P w = .ok none w := by
   simp [Instr.findKey, run_underlying hK, Sem.run_bind, hf es.toList hl]
 have hlt := (Array.getElem?_eq_some_iff.1 hb).1
 refine ⟨{ w with heap := w.heap.setIfInBounds b (.map (es.push { key := k, val := v, born := c }) (c + 1)) }, ?_, ⟨es.push { key := k, val := v, born := c }, c + 1, ?_, ?_⟩, ?_⟩
 · simp [Instr.mapUpdate, run_underlying hT, Sem.run_bind, MapKept.run_getObj_map hb, hck, hfk, MapKept.run_setObj_map _ hb, Result.andThen]
 · simp [hlt]
 · simp [hl]
 · refine ⟨rfl, rfl, rfl, by simp, fun x hx hne => ?_⟩
   have hne' : ¬ b = x := fun e => hne e.symm
   simp [Array.getElem?_setIfInBounds, hne']
theorem y_insI {b : Nat} {l : List (Value × Value)} {a : Int} {v : Value} (hK : P.underlying K = some (.int .i64)) (hT : P.underlying T = some (.map K E)) (H : St X w0 w L) (q : Nat) (hq : L[q]? = some (.mf b l)) (hx : ev t x = .map (some b)) (hy : ev t y = .int .i64 a) (hz : ev t z = v) (hn : newI a l = true)
   (h : ∀ w', St X w0 w' (L.set q (.mf b (l ++ [(.int .i64 a, v)]))) → R undef w') : Yd P ρ N ⟨d, .insert T x y z, ty, ps, af, g⟩ t w R := by
 obtain ⟨w', h1, h2, h3⟩ := ins_run (v := v) hK hT (.inl rfl) (H.get q hq) (fun es he => miss_I a es 0 (he ▸ hn))
 refine y_skip (w' := w') ?_ (h _ (H.put q hq h3 h2 (fun _ e => .inl e)))
 simp only [execOp, hx, hy, hz, Sem.run_bind, h1]; rfl
theorem y_insS {b : Nat} {l : List (Value × Value)} {a : ByteArray} {v : Value} (hK : P.underlying K = some .string) (hT : P.underlying T = some (.map K E)) (H : St X w0 w L) (q : Nat) (hq : L[q]? = some (.mf b l)) (hx : ev t x = .map (some b)) (hy : ev t y = .string a) (hz : ev t z = v) (hn : newS a l = true)
   (h : ∀ w', St X w0 w' (L.set q (.mf b (l ++ [(.string a, v)]))) → R undef w') : Yd P ρ N ⟨d, .insert T x y z, ty, ps, af, g⟩ t w R := by
 obtain ⟨w', h1, h2, h3⟩ := ins_run (v := v) hK hT (.inr rfl) (H.get q hq) (fun es he => miss_S a es 0 (he ▸ hn))
 refine y_skip (w' := w') ?_ (h _ (H.put q hq h3 h2 (fun _ e => .inl e)))
 simp only [execOp, hx, hy, hz, Sem.run_bind, h1]; rfl
theorem lk_run {b : Nat} {l : List (Value × Value)} {k v : Value} {D : TypeDesc} (hK : P.underlying K = some D) (hT : P.underlying T = some (.map K E)) (hD : D = .int .i64 ∨ D = .string) (hE : (P.info? E).bind (·.zero) = some .nilFunc) (hm : (Rs.mf b l).inv w)
   (hf : ∀ es : List MapEntry, es.map (fun e => (e.key, e.val)) = l → ∃ r, Instr.findNow D k es 0 = some r ∧ (match r with | some (_, v) => v | none => .nilFunc) = v) : (Instr.lookup T (.map (some b)) k false).run P w = .ok v w := by
 obtain ⟨es, c, hb, hl⟩ := hm
 have hck : ∀ e, (Instr.checkKey e 10000 K k).run P w = .ok () w := fun e => ck_run hK hD 9999 _ _
 obtain ⟨r, h1, h2⟩ := hf es.toList hl
 have hfk : (Instr.findKey K k es.toList).run P w = .ok r w := by
   simp [Instr.findKey, run_underlying hK, Sem.run_bind, h1]
 have hz : (zeroValue E).run P w = .ok .nilFunc w := by
   cases hi : P.info? E with
   | none => simp [hi] at hE
   | some i => simp [hi] at hE; simp [zeroValue, typeInfo, hi, hE]
 match r, h2 with
 | some (i, u), h2 => simp only at h2; subst h2; simp [Instr.lookup, run_underlying hT, Sem.run_bind, MapKept.run_getObj_map hb, hck, hfk, Result.andThen]
 | none, h2 => simp only at h2; subst h2; simp [Instr.lookup, run_underlying hT, Sem.run_bind, MapKept.run_getObj_map hb, hck, hfk, hz, Result.andThen]
theorem r_lkI {b : Nat} {l : List (Value × Value)} {a : Int} {v : Value} (hK : P.underlying K = some (.int .i64)) (hT : P.underlying T = some (.map K E)) (hE : (P.info? E).bind (·.zero) = some .nilFunc) (hm : (Rs.mf b l).inv w) (hx : ev t x = .map (some b)) (hy : ev t y = .int .i64 a) (hks : intKs l = true) (hv : lkI a l = v) :
   Rv P ⟨d, .lookup T x y false, ty, ps, af, g⟩ t w v := by
 have h := lk_run (k := .int .i64 a) (v := v) hK hT (.inl rfl) hE hm (fun es he => by rw [← hv, ← he]; exact find_I a es 0 (by rw [he]; exact hks))
 unfold Rv; simp only [execOp, hx, hy, Sem.run_bind, h]; rfl
theorem r_lkS {b : Nat} {l : List (Value × Value)} {a : ByteArray} {v : Value} (hK : P.underlying K = some .string) (hT : P.underlying T = some (.map K E)) (hE : (P.info? E).bind (·.zero) = some .nilFunc) (hm : (Rs.mf b l).inv w) (hx : ev t x = .map (some b)) (hy : ev t y = .string a) (hks : strKs l = true) (hv : lkS a l = v) :
   Rv P ⟨d, .lookup T x y false, ty, ps, af, g⟩ t w v := by
 have h := lk_run (k := .string a) (v := v) hK hT (.inr rfl) hE hm (fun es he => by rw [← hv, ← he]; exact find_S a es 0 (by rw [he]; exact hks))
 unfold Rv; simp only [execOp, hx, hy, Sem.run_bind, h]; rfl
def Ar (P : Program) (T : TypeId) (n sz : Nat) : Prop := ∃ E, P.underlying T = some (.array n E) ∧ (P.info? E).map (·.size) = some sz
theorem r_iaddrA {n sz b o : Nat} {k : IntKind} {i : Int} (hT : Ar P T n sz) (hx : ev t x = .pointer (some ⟨b, o, none⟩)) (hy : ev t y = .int k i) (h0 : 0 ≤ i) (h1 : i < n) : Rv P ⟨d, .indexAddr T x y, ty, ps, af, g⟩ t w (.pointer (some ⟨b, o + i.toNat * sz, none⟩)) := by
 obtain ⟨E, h2, h3⟩ := hT
 cases hj : P.info? E with
 | none => simp [hj] at h3
 | some j =>
   have hs : j.size = sz := by simpa [hj] using h3
   unfold Rv
   simp [execOp, hx, hy, Instr.indexAt, Instr.sureAddr, run_underlying h2, sizeOf, typeInfo, hj, hs, h0, h1, Addr.add_mid, go_sem]
theorem r_nilckI {T0 : TypeId} {v : Value} (hx : ev t x = .iface T0 v) : Rv P ⟨d, .nilCheck x, ty, ps, af, g⟩ t w (.iface T0 v) := by
 unfold Rv; simp only [execOp, hx]; rfl
theorem y_callI {f : FuncId} {T0 : TypeId} {nm : String} {v rv : Value} {xs : Array Operand} {ats : Array TypeId} {vs : List Value} (hm : ∀ w, (Go.method (P.types.size + Made.depth) T0 v nm).run P w = .ok (f, rv) w) (hf : En P f) (hx : ev t x = .iface T0 v) (hv : rv :: xs.toList.map (ev t) = vs)
   (h : Calls P f vs.toArray w fun e w'' => ∃ v, e = .returned v ∧ R v w'') : Yd P ρ N ⟨d, .call ⟨.invoke x nm, xs, ats⟩, ty, ps, af, g⟩ t w R := by
 refine y_enter (f := f) (args := vs.toArray) (w' := w) ?_ h
 have e1 : (#[ev t x] ++ xs.map (ev t)).extract 1 (#[ev t x] ++ xs.map (ev t)).size = xs.map (ev t) := by
   apply Array.ext'; simp
   exact List.take_of_length_le (by simp)
 have e2 : #[rv] ++ xs.map (ev t) = vs.toArray := by subst hv; apply Array.ext'; simp
 have e3 : (#[ev t x] ++ xs.map (ev t))[0]? = some (.iface T0 v) := by rw [hx, Array.getElem?_append_left (by simp)]; rfl
 simp only [execOp, resolve, invoke, Sem.run_bind, Sem.run_pure, Result.andThen_ok, e3, e1]
 simp only [callMethod, Sem.run_bind, run_program, Result.andThen_ok, hm, e2, run_callFunc_en hf]
theorem y_appZ {e : Enc α} {by_ : Nat} {zz : Value} {z0 : α} {n : Int} {kn k : IntKind} (hT : Sl P T E e.sz by_ zz) (hn : P.underlying T' = some (.int kn)) (hz : zz.cells.toList = e.en z0) (H : St X w0 w L) (hx : ev t x = .slice none 0 0) (hy : ev t y = .int k n) (h0 : 0 < n) (hb : (by_ : Int) * n ≤ 140737488355328)
   (h : ∀ v w', St X w0 w' (L ++ [.own e E v (List.replicate n.toNat z0)]) → R v w') (hb1 : 0 < by_ := by decide) : Yd P ρ N ⟨d, .call ⟨.builtin .append, #[x, y], #[T, T']⟩, ty, ps, af, g⟩ t w R := by
 obtain ⟨t1, i, t2, t3, t4, t5, t6, t7⟩ := hT
 obtain ⟨m, rfl⟩ : ∃ m : Nat, n = m := ⟨n.toNat, by omega⟩
 have hb' : by_ * m ≤ 140737488355328 := by
   have : ((by_ * m : Nat) : Int) ≤ 140737488355328 := by rw [Int.natCast_mul]; exact hb
   omega
 have hm : m ≤ by_ * m := Nat.le_mul_of_pos_left m hb1
 have hr := Lib.run_append_nil_zeros (P := P) w T T' ty E i zz k kn t1 hn t2 t5 m (by omega) (by rw [t3]; exact t7) (by omega) (by rw [t4, Nat.mul_comm]; omega)
 have hg := grownCap_ge w m 0 E
 have hgm := grownCap_le_maxLen w m 0 E (by unfold maxLen; omega)
 have zc : ∀ n, Builtin.zeroCells zz.cells n = madeCells zz.cells (n * e.sz) := fun n => by
   unfold Builtin.zeroCells madeCells; rw [t6]
 refine y_val (v := .slice (some ⟨w.heap.size, 0, none⟩) m (grownCap w m 0 E)) (w' := w.drew.alloc (.cells (Builtin.zeroCells zz.cells m ++ Builtin.zeroCells zz.cells (grownCap w m 0 E - m)) E)) ?_ (h _ _ ((H.drew).new (.alloc _ _ _) ?_ ?_))
 · simp only [execOp, resolve, invoke, Sem.run_bind, Sem.run_pure, Result.andThen_ok, List.map_toArray, List.map_cons, List.map_nil, hx, hy]
   simp only [builtin, Sem.run_bind, hr]; rfl
 · have hlen : (List.replicate ((m : Int)).toNat z0).length = m := by simp
   refine ⟨e.all_len _, .inr ⟨w.heap.size, grownCap w m 0 E, Builtin.zeroCells zz.cells m ++ Builtin.zeroCells zz.cells (grownCap w m 0 E - m), by rw [hlen], Nat.zero_le _, ?_, by rw [hlen]; exact hg, hgm, ?_, ?_⟩⟩
   · show (w.drew.heap.push _)[w.heap.size]? = _
     have : w.drew.heap = w.heap := rfl
     rw [this]; simp
   · rw [Array.size_append, zc, zc, size_madeCells, size_madeCells, ← Nat.add_mul]; congr 1; omega
   · rw [hlen, Array.toList_append, zc, List.take_left' (by rw [Array.length_toList, size_madeCells])]
     rw [rep_all e z0 zz t7 hz]; simp
 · intro b hb
   have : (Value.slice (some ⟨w.heap.size, 0, none⟩) m (grownCap w m 0 E)).ownBlock = some b := hb
   cases this; exact Nat.le_refl _
end
end Go.Proofs.YtkndgkbgbmhjoaaGreatDoor.Gw
namespace Go.Proofs.YtkndgkbgbmhjoaaGreatDoor.Gw
def x2 (a : Nat) : Nat := if a < 128 then 2 * a else (2 * a) ^^^ 285
def gmR : Nat → Nat → Nat → Nat
 | 0, _, _ => 0
 | n + 1, a, b => (if b % 2 = 1 then a else 0) ^^^ gmR n (x2 a) (b / 2)
def gmN (a b : Nat) : Nat := gmR 8 a b
def all256 (p : Nat → Bool) : Bool := (List.range 256).all p
theorem all256_spec {p : Nat → Bool} (h : all256 p = true) {a : Nat} (ha : a < 256) : p a = true :=
 List.all_eq_true.1 h a (List.mem_range.2 ha)
theorem x2_lt {a : Nat} (ha : a < 256) : x2 a < 256 := by
 have : all256 (fun a => Nat.blt (x2 a) 256) = true := by decide +kernel
 have h := all256_spec this ha
 simpa [Nat.blt_eq] using h
theorem x2_xor {a b : Nat} (ha : a < 256) (hb : b < 256) : x2 (a ^^^ b) = x2 a ^^^ x2 b := by
 have : all256 (fun a => all256 fun b => Nat.beq (x2 (a ^^^ b)) (x2 a ^^^ x2 b)) = true := by decide +kernel
 exact Nat.eq_of_beq_eq_true (all256_spec (all256_spec this ha) hb)
theorem xor_lt {a b : Nat} (ha : a < 256) (hb : b < 256) : a ^^^ b < 256 := Nat.xor_lt_two_pow (n := 8) ha hb
theorem ite_lt {c : Prop} [Decidable c] {a : Nat} (ha : a < 256) : (if c then a else 0) < 256 := by split <;> omega
theorem gmR_lt : ∀ (n : Nat) {a : Nat} (b : Nat), a < 256 → gmR n a b < 256
 | 0, _, _, _ => by show 0 < 256; decide
 | n + 1, a, b, ha => xor_lt (ite_lt ha) (gmR_lt n _ (x2_lt ha))
theorem gmN_lt {a : Nat} (b : Nat) (ha : a < 256) : gmN a b < 256 := gmR_lt 8 b ha
theorem gmR_zero : ∀ (n a : Nat), gmR n a 0 = 0
 | 0, _ => rfl
 | n + 1, a => by rw [gmR]; simp [gmR_zero n]
theorem xlc (a b c : Nat) : a ^^^ (b ^^^ c) = b ^^^ (a ^^^ c) := by rw [← Nat.xor_assoc, Nat.xor_comm a b, Nat.xor_assoc]
theorem gmR_xor_r : ∀ (n a b c : Nat), gmR n a (b ^^^ c) = gmR n a b ^^^ gmR n a c
 | 0, _, _, _ => by simp [gmR]
 | n + 1, a, b, c => by
   have h1 : (b ^^^ c) / 2 = b / 2 ^^^ c / 2 := by
     have := @Nat.xor_div_two_pow b c 1; simpa using this
   have h2 : (b ^^^ c) % 2 = (b % 2) ^^^ (c % 2) := by
     have := @Nat.xor_mod_two_pow b c 1; simpa using this
   rw [gmR, gmR, gmR, h1, gmR_xor_r n, h2]
   have hb := Nat.mod_two_eq_zero_or_one b
   have hc := Nat.mod_two_eq_zero_or_one c
   rcases hb with hb | hb <;> rcases hc with hc | hc <;> simp [hb, hc]
   · exact xlc _ _ _
   · rw [Nat.xor_assoc]
   · rw [xlc, ← Nat.xor_assoc a, ← Nat.xor_assoc a, Nat.xor_self, Nat.zero_xor]
theorem gmR_xor_l : ∀ (n : Nat) {a b : Nat} (c : Nat), a < 256 → b < 256 → gmR n (a ^^^ b) c = gmR n a c ^^^ gmR n b c
 | 0, _, _, _, _, _ => by simp [gmR]
 | n + 1, a, b, c, ha, hb => by
   rw [gmR, gmR, gmR, x2_xor ha hb, gmR_xor_l n _ (x2_lt ha) (x2_lt hb)]
   by_cases h : c % 2 = 1 <;> simp [h]
   rw [Nat.xor_assoc, Nat.xor_assoc, xlc b]
theorem x2_zero : x2 0 = 0 := rfl
theorem x2_gmR : ∀ (n : Nat) {a : Nat} (b : Nat), a < 256 → x2 (gmR n a b) = gmR n (x2 a) b
 | 0, _, _, _ => rfl
 | n + 1, a, b, ha => by
   rw [gmR, gmR, x2_xor (ite_lt ha) (gmR_lt n _ (x2_lt ha)), x2_gmR n _ (x2_lt ha)]
   by_cases h : b % 2 = 1 <;> simp [h, x2_zero]
theorem gmN_comm {a b : Nat} (ha : a < 256) (hb : b < 256) : gmN a b = gmN b a := by
 have : all256 (fun a => all256 fun b => Nat.beq (gmN a b) (gmN b a)) = true := by decide +kernel
 exact Nat.eq_of_beq_eq_true (all256_spec (all256_spec this ha) hb)
theorem gmN_xor_r (a b c : Nat) : gmN a (b ^^^ c) = gmN a b ^^^ gmN a c := gmR_xor_r 8 a b c
theorem gmN_xor_l {a b : Nat} (c : Nat) (ha : a < 256) (hb : b < 256) : gmN (a ^^^ b) c = gmN a c ^^^ gmN b c := gmR_xor_l 8 c ha hb
theorem gmN_zero_r (a : Nat) : gmN a 0 = 0 := gmR_zero 8 a
theorem gmN_zero_l {a : Nat} (ha : a < 256) : gmN 0 a = 0 := by rw [gmN_comm (by decide) ha, gmN_zero_r]
theorem gmN_one_r {a : Nat} : gmN a 1 = a := by
 simp [gmN, gmR]
theorem gmN_one_l {a : Nat} (ha : a < 256) : gmN 1 a = a := by rw [gmN_comm (by decide) ha, gmN_one_r]
theorem gmN_x2 {a b : Nat} (ha : a < 256) (hb : b < 256) : gmN a (x2 b) = x2 (gmN a b) := by
 rw [gmN_comm ha (x2_lt hb), gmN_comm ha hb]; exact (x2_gmR 8 a hb).symm
theorem gmR_assoc : ∀ (n : Nat) {a b : Nat} (c : Nat), a < 256 → b < 256 → gmR n (gmN a b) c = gmN a (gmR n b c)
 | 0, _, _, _, _, _ => by rw [gmR, gmR, gmN_zero_r]
 | n + 1, a, b, c, ha, hb => by
   rw [gmR, gmR, gmN_xor_r, ← gmN_x2 ha hb, gmR_assoc n _ ha (x2_lt hb)]
   by_cases h : c % 2 = 1 <;> simp [h, gmN_zero_r]
theorem gmN_assoc {a b : Nat} (c : Nat) (ha : a < 256) (hb : b < 256) : gmN (gmN a b) c = gmN a (gmN b c) := gmR_assoc 8 c ha hb
def gpN (a : Nat) : Nat → Nat
 | 0 => 1
 | k + 1 => gmN (gpN a k) a
theorem gpN_lt {a : Nat} (ha : a < 256) : ∀ k, gpN a k < 256
 | 0 => by show 1 < 256; decide
 | k + 1 => gmN_lt _ (gpN_lt ha k)
theorem gpN_add {a : Nat} (ha : a < 256) (m : Nat) : ∀ n, gpN a (m + n) = gmN (gpN a m) (gpN a n)
 | 0 => by rw [Nat.add_zero, gpN, gmN_one_r]
 | n + 1 => by rw [← Nat.add_assoc, gpN, gpN, gpN_add ha m n, gmN_assoc _ (gpN_lt ha m) (gpN_lt ha n)]
theorem gpN_one : ∀ k, gpN 1 k = 1
 | 0 => rfl
 | k + 1 => by rw [gpN, gpN_one k, gmN_one_r]
theorem gpN_mul {a : Nat} (ha : a < 256) (m : Nat) : ∀ n, gpN a (m * n) = gpN (gpN a m) n
 | 0 => rfl
 | n + 1 => by rw [Nat.mul_succ, gpN_add ha, gpN_mul ha m n, gpN]
theorem gpN_255 {a : Nat} (ha : a < 256) (h0 : a ≠ 0) : gpN a 255 = 1 := by
 have : all256 (fun a => Nat.beq a 0 || Nat.beq (gpN (gpN (gpN a 3) 5) 17) 1) = true := by decide +kernel
 have h := all256_spec this ha
 have e : gpN a 255 = gpN (gpN (gpN a 3) 5) 17 := by rw [← gpN_mul (gpN_lt ha 3), ← gpN_mul ha]
 rw [Bool.or_eq_true] at h
 rw [e]
 rcases h with h | h
 · exact absurd (Nat.eq_of_beq_eq_true h) h0
 · exact Nat.eq_of_beq_eq_true h
theorem gpN_mod {a : Nat} (ha : a < 256) (h0 : a ≠ 0) (k : Nat) : gpN a (k % 255) = gpN a k := by
 conv => rhs; rw [← Nat.div_add_mod k 255, gpN_add ha, gpN_mul ha, gpN_255 ha h0, gpN_one]
 rw [gmN_one_l (gpN_lt ha _)]
def giN (a : Nat) : Nat := gpN a 254
theorem gmN_giN {a : Nat} (ha : a < 256) (h0 : a ≠ 0) : gmN a (giN a) = 1 := by
 unfold giN; rw [gmN_comm ha (gpN_lt ha _)]; exact gpN_255 ha h0
def gm (a b : Int) : Int := (gmN a.toNat b.toNat : Nat)
def byt (a : Int) : Bool := decide (0 ≤ a ∧ a < 256)
theorem byt_spec {a : Int} : byt a = true ↔ 0 ≤ a ∧ a < 256 := decide_eq_true_iff
theorem byt_nat {a : Int} (h : byt a = true) : ∃ n : Nat, a = n ∧ n < 256 := ⟨a.toNat, by have := byt_spec.1 h; omega, by have := byt_spec.1 h; omega⟩
end Go.Proofs.YtkndgkbgbmhjoaaGreatDoor.Gw
