/- Ranges over functions: the loop's record and the block of its mark as things that a call holds; a round as code. -/
import Derived.Test.YthfhhnlnlcbckaaGa
import Derived.Shelf.Abstract
namespace Go.Proofs.Ythfhhnlnlcbckaa.Gw
open Go Go.RowKit
set_option linter.unusedSimpArgs false
set_option linter.unusedVariables false
/-- A block that is just this. -/
def Rs.obj (b : Nat) (o : Obj) : Rs where
  fp := fun x => x = b
  inv := fun w => w.heap[b]? = some o
  loc := fun w w' h hi => (h b rfl).trans hi
  bd := fun w h x e => by subst e; exact (Array.getElem?_eq_some_iff.1 h).1
section
variable {P : Program} {ρ : Option Nat} {N : Nat} {Q : Exit → Fr → World → Prop} {t : Fr} {w w0 : World} {X : Nat → Prop} {L M : List Rs} {R : Value → World → Prop} {d : Option Nat} {ty T T' : TypeId} {ps : String} {af : Array Edge} {g : Option (Nat × Bool)} {x y : Operand}
theorem St.obj (H : St X w0 w L) (o : Obj) : St X w0 (w.alloc o) (L ++ [.obj w.heap.size o]) :=
  H.new (.alloc _ _ _) (by show (w.heap.push _)[w.heap.size]? = _; simp) (fun b e => by simp only [Rs.obj] at e; omega)
theorem ch_putObj (w : World) (b : Nat) (o : Obj) : Ch (fun x => x = b) w (w.putObj b o) :=
  ⟨rfl, rfl, rfl, by simp, fun k _ hk => World.putObj_heap_other hk⟩
theorem St.putO (H : St X w0 w L) (q : Nat) {b : Nat} {o : Obj} (hq : L[q]? = some (.obj b o)) (o' : Obj) : St X w0 (w.putObj b o') (L.set q (.obj b o')) :=
  H.put q hq (ch_putObj _ _ _) (World.putObj_heap_same ((Rs.obj b o).bd w (H.get q hq) b rfl)) (fun _ e => .inl e)
/-- The temporaries that a record keeps. -/
structure Tm (N : Nat) (t : Fr) (tm : Array Value) : Prop where
  small : N ≤ 1000000
  size : tm.size = N
  get : ∀ i, Nat.beq i 1000000 = false → tm.getD i undef = t i
theorem Fm.tm {a : Act} (h : Fm N t a) : Tm N t a.tmps := ⟨h.small, h.size, h.get⟩
/-- A round's frame. -/
def rfr (t : Fr) (ps : List Nat) (vs : List Value) : Fr := (ps.zip vs).foldl (fun t p => upd t p.1 p.2) (upd t 1000000 undef)
theorem rfr_fm {tm : Array Value} (hT : Tm N t tm) : ∀ (ps : List Nat) (vs : List Value) (hp : ps.all (fun p => Nat.blt p N) = true),
    Fm N (rfr t ps vs) { tmps := (ps.zip vs).foldl (fun tm p => tm.setIfInBounds p.1 p.2) tm, defers := [] } := by
  have base : Fm N (upd t 1000000 undef) { tmps := tm, defers := [] } :=
    ⟨hT.small, by show [] = marks (upd t 1000000 undef 1000000); rfl, hT.size, fun i hi => by show tm.getD i undef = upd t 1000000 undef i; unfold upd; rw [hi]; exact hT.get i hi⟩
  have key : ∀ (l : List (Nat × Value)) (t : Fr) (tm : Array Value), (∀ p ∈ l, p.1 < N) → Fm N t { tmps := tm, defers := [] } →
      Fm N (l.foldl (fun t p => upd t p.1 p.2) t) { tmps := l.foldl (fun tm p => tm.setIfInBounds p.1 p.2) tm, defers := [] } := by
    intro l
    induction l with
    | nil => exact fun _ _ _ h => h
    | cons p l ih =>
      intro t tm hp h
      exact ih _ _ (fun q hq => hp q (List.mem_cons_of_mem _ hq)) (h.put (d := some p.1) (by simpa [ok, Nat.blt_eq] using hp p List.mem_cons_self) p.2)
  intro ps vs hp
  refine key _ _ _ (fun p h => ?_) base
  have h1 := List.of_mem_zip h
  have := List.all_eq_true.1 hp p.1 h1.1
  simpa [Nat.blt_eq] using this
/-- The end of a round. -/
def RE (P : Program) (l : Nat) (R : Value → World → Prop) : Exit → Fr → World → Prop
  | .normal, _, w => ∃ r, w.heap[l]? = some (.loop r) ∧ R (.bool true) (w.putObj l (.loop { r with state := .ready, pending := none }))
  | .ret, _, w => ∃ r, w.heap[l]? = some (.loop r) ∧ R (.bool false) (w.putObj l (.loop { r with state := .done, pending := some .ret }))
  | .exit i, _, w => ∃ r, w.heap[l]? = some (.loop r) ∧ R (.bool false) (w.putObj l (.loop { r with state := .done, pending := some (.exit i) }))
  | _, _, _ => False
theorem re_n {l : Nat} {r : Loop} (H : St X w0 w L) (q : Nat) (hq : L[q]? = some (.obj l (.loop r))) (h : ∀ w', St X w0 w' (L.set q (.obj l (.loop { r with state := .ready, pending := none }))) → R (.bool true) w') : RE P l R .normal t w :=
  ⟨r, H.get q hq, h _ (H.putO q hq _)⟩
theorem re_r {l : Nat} {r : Loop} (H : St X w0 w L) (q : Nat) (hq : L[q]? = some (.obj l (.loop r))) (h : ∀ w', St X w0 w' (L.set q (.obj l (.loop { r with state := .done, pending := some .ret }))) → R (.bool false) w') : RE P l R .ret t w :=
  ⟨r, H.get q hq, h _ (H.putO q hq _)⟩
theorem re_x {l i : Nat} {r : Loop} (H : St X w0 w L) (q : Nat) (hq : L[q]? = some (.obj l (.loop r))) (h : ∀ w', St X w0 w' (L.set q (.obj l (.loop { r with state := .done, pending := some (.exit i) }))) → R (.bool false) w') : RE P l R (.exit i) t w :=
  ⟨r, H.get q hq, h _ (H.putO q hq _)⟩
/-- Behind the assignment to the loop's variables: the round begins. -/
def RB (P : Program) (l M : Nat) (R : Value → World → Prop) (body : Code) : Exit → Fr → World → Prop
  | .normal, t, w => ∃ r, w.heap[l]? = some (.loop r) ∧ r.state = .ready ∧ Wc P (some l) M (RE P l R) body t (w.putObj l (.loop { r with state := .busy }))
  | _, _, _ => False
theorem rb_n {l M : Nat} {r : Loop} {body : Code} (H : St X w0 w L) (q : Nat) (hq : L[q]? = some (.obj l (.loop r))) (hr : r.state = .ready)
    (h : ∀ w', St X w0 w' (L.set q (.obj l (.loop { r with state := .busy }))) → Wc P (some l) M (RE P l R) body t w') : RB P l M R body .normal t w :=
  ⟨r, H.get q hq, hr, h _ (H.putO q hq _)⟩
theorem zipfold (tm : Array Value) : ∀ (ps : List Nat) (vs : List Value), (ps.toArray.zip vs.toArray).foldl (fun tm (p : Nat × Value) => tm.setIfInBounds p.1 p.2) tm = (ps.zip vs).foldl (fun tm p => tm.setIfInBounds p.1 p.2) tm := by
  intro ps vs
  rw [List.zip_toArray, List.foldl_toArray]
theorem run_yieldOp {l : Nat} {r : Loop} {xs : Array Operand} {as_ : Array TypeId} {vs : List Value} (hx : ev t x = .func (.yield l) #[] #[]) (hv : xs.toList.map (ev t) = vs) (hl : w.heap[l]? = some (.loop r)) (hs : vs.length = r.params.size) :
    (execOp (ev t) ⟨d, .call ⟨.value x, xs, as_⟩, ty, ps, af, g⟩).run P w = .ok (.round l r.fn ((r.params.zip vs.toArray).foldl (fun tmps (t, a) => tmps.setIfInBounds t a) r.tmps) r.assign r.body) w := by
  have e1 : xs.map (ev t) = vs.toArray := by subst hv; apply Array.ext'; simp
  have hy := run_yield (P := P) (args := vs.toArray) hl (by simpa using hs)
  simp only [execOp, Sem.run_bind]
  simp [resolve, hx, e1, invoke, hy, go_sem]
/-- A round of a range over a function. -/
theorem y_yield {l M : Nat} {r : Loop} {xs : Array Operand} {as_ : Array TypeId} {tr : Fr} (vs : List Value) (hx : ev t x = .func (.yield l) #[] #[]) (hv : xs.toList.map (ev t) = vs) (H : St X w0 w L) (q : Nat) (hq : L[q]? = some (.obj l (.loop r)))
    (hT : Tm M tr r.tmps) (pl : List Nat) (hp : r.params = pl.toArray) (hs : vs.length = pl.length) (hlt : pl.all (fun p => Nat.blt p M) = true)
    (h : Wc P (some l) M (RB P l M R r.body) r.assign (rfr tr pl vs) w) : Yd P ρ N ⟨d, .call ⟨.value x, xs, as_⟩, ty, ps, af, g⟩ t w R := by
  intro a ha K QQ hk
  have hl : w.heap[l]? = some (.loop r) := H.get q hq
  refine ⟨fun _ _ => trivial, ?_⟩
  have hrun := run_yieldOp (P := P) (d := d) (ty := ty) (ps := ps) (af := af) (g := g) (as_ := as_) hx hv hl (by rw [hp, hs]; simp)
  have := semAt_of (ρ := ρ) hrun (fun d e => by cases e)
  show Oper.uponIn (Fw ρ) 0 P _ a K QQ ((Oper.semAt ρ a.eval _).run P w)
  rw [ha.eval, this]
  refine ⟨(fun e => by cases e), ?_⟩
  refine roundIn_of_wpIn trivial ?_
  rw [hp, zipfold]
  have hfm := rfr_fm hT pl vs hlt
  have h' := h _ hfm
  refine Code.wpIn_mono ?_ h'
  rintro e a' w' ⟨t', f', np, hq'⟩
  cases e with
  | normal =>
    obtain ⟨r', hl', hr', hb⟩ := hq'
    refine ⟨_, run_beginRound hl' hr', ?_⟩
    refine Code.wpIn_mono ?_ (hb a' f')
    rintro e2 a2 w2 ⟨t2, f2, np2, hre⟩
    cases e2 with
    | normal => obtain ⟨r2, hl2, hR⟩ := hre; exact ⟨_, _, run_endRound none hl2, hk _ _ hR⟩
    | ret => obtain ⟨r2, hl2, hR⟩ := hre; exact ⟨_, _, run_endRound (some .ret) hl2, hk _ _ hR⟩
    | exit i => obtain ⟨r2, hl2, hR⟩ := hre; exact ⟨_, _, run_endRound (some (.exit i)) hl2, hk _ _ hR⟩
    | goto i => exact hre.elim
    | panic c => exact hre.elim
    | outgrown => exact hre.elim
  | ret => exact hq'.elim
  | exit i => exact hq'.elim
  | goto i => exact hq'.elim
  | panic c => exact hq'.elim
  | outgrown => exact hq'.elim
/-- The frame behind a range over a function: one block more. -/
def pushM : Value → Nat → Value
  | .tuple vs, D => .tuple (Value.pointer (some ⟨D, 0, none⟩) :: vs.toList).toArray
  | _, D => .tuple [Value.pointer (some ⟨D, 0, none⟩)].toArray
theorem markB_push (v : Value) (D : Nat) : markB (pushM v D) = D :: markB v := by
  cases v <;> rfl
theorem marks_push (v : Value) (D : Nat) : marks (pushM v D) = mark1 D :: marks v := by
  unfold marks; rw [markB_push]; rfl
/-- The blocks of the marks of a frame. -/
def Rs.mks (v : Value) : Rs where
  fp := fun x => x ∈ markB v
  inv := fun w => (markB v).Nodup ∧ ∀ D ∈ markB v, w.heap[D]? = some (.deferred (some []))
  loc := fun w w' h hi => ⟨hi.1, fun D hD => (h D hD).trans (hi.2 D hD)⟩
  bd := fun w h x e => (Array.getElem?_eq_some_iff.1 (h.2 x e)).1
theorem St.mk0 (H : St X w0 w L) : St X w0 w (L ++ [.mks undef]) :=
  H.new (.refl _ _) ⟨List.nodup_nil, fun D h => by cases h⟩ (fun b h => by cases h)
theorem St.push (H : St X w0 w L) (q : Nat) {v : Value} (hq : L[q]? = some (.mks v)) : St X w0 (w.alloc (.deferred (some []))) (L.set q (.mks (pushM v w.heap.size))) := by
  have hi := H.get q hq
  have hl : ∀ D ∈ markB v, D < w.heap.size := fun D hD => (Rs.mks v).bd w hi D hD
  have hnew : (w.alloc (.deferred (some []))).heap[w.heap.size]? = some (.deferred (some [])) := by show (w.heap.push _)[w.heap.size]? = _; simp
  refine H.put q hq ((Ch.alloc _ w _)) ⟨?_, ?_⟩ (fun b hb => ?_)
  · rw [markB_push]; exact List.nodup_cons.2 ⟨fun h => Nat.lt_irrefl _ (hl _ h), hi.1⟩
  · rw [markB_push]
    intro D hD
    rcases List.mem_cons.1 hD with e | e
    · rw [e]; exact hnew
    · exact (Below.heap_alloc w _ D (hl D e)).trans (hi.2 D e)
  · have hb' : b ∈ markB (pushM v w.heap.size) := hb
    rw [markB_push] at hb'
    rcases List.mem_cons.1 hb' with e | e
    · exact .inr (by omega)
    · exact .inl e
/-- A record of a loop as it stands between rounds. -/
structure LO (N : Nat) (t : Fr) (pl : List Nat) (assign body : Code) (o : Loop) : Prop where
  st : o.state = .ready
  pd : o.pending = none
  ps : o.params = pl.toArray
  asg : o.assign = assign
  bdy : o.body = body
  tm : Tm N t o.tmps
def lpB (o : Loop) : Loop := { o with state := .busy }
def lpD (o : Loop) (c : Code) : Loop := { o with state := .done, pending := some c }
def lpX (o : Loop) : Loop := { o with state := .exhausted }
theorem lo_eta {o : Loop} (h1 : o.state = .ready) (h2 : o.pending = none) : { o with state := .ready, pending := none } = o := by
  cases o; cases h1; cases h2; rfl
theorem yB {l : Nat} {o : Loop} {assign body : Code} {pl : List Nat} {M : Nat} {tr : Fr} (H : St X w0 w L) (q : Nat) (hq : L[q]? = some (.obj l (.loop o))) (hO : LO M tr pl assign body o)
    (h : ∀ w', St X w0 w' (L.set q (.obj l (.loop (lpB o)))) → Wc P (some l) M (RE P l R) body t w') : RB P l M R body .normal t w :=
  rb_n H q hq hO.st h
theorem yN {l : Nat} {o : Loop} {assign body : Code} {pl : List Nat} {M : Nat} {tr : Fr} (H : St X w0 w L) (q : Nat) (hq : L[q]? = some (.obj l (.loop (lpB o)))) (hO : LO M tr pl assign body o)
    (h : ∀ w', St X w0 w' (L.set q (.obj l (.loop o))) → R (.bool true) w') : RE P l R .normal t w :=
  re_n H q hq fun w' h' => h w' (by
    have e : ({ lpB o with state := .ready, pending := none } : Loop) = o := (show ({ lpB o with state := .ready, pending := none } : Loop) = { o with state := .ready, pending := none } from rfl).trans (lo_eta hO.st hO.pd)
    rw [e] at h'; exact h')
theorem yR {l : Nat} {o : Loop} (H : St X w0 w L) (q : Nat) (hq : L[q]? = some (.obj l (.loop (lpB o)))) (h : ∀ w', St X w0 w' (L.set q (.obj l (.loop (lpD o .ret)))) → R (.bool false) w') : RE P l R .ret t w :=
  re_r H q hq h
theorem yX {l i : Nat} {o : Loop} (H : St X w0 w L) (q : Nat) (hq : L[q]? = some (.obj l (.loop (lpB o)))) (h : ∀ w', St X w0 w' (L.set q (.obj l (.loop (lpD o (.exit i))))) → R (.bool false) w') : RE P l R (.exit i) t w :=
  re_x H q hq h
/-- A round, of a record between rounds. -/
theorem y_yld {l M : Nat} {o : Loop} {assign body : Code} {xs : Array Operand} {as_ : Array TypeId} {tr : Fr} {pl : List Nat} (vs : List Value) (hx : ev t x = .func (.yield l) #[] #[]) (hv : xs.toList.map (ev t) = vs) (H : St X w0 w L) (q : Nat) (hq : L[q]? = some (.obj l (.loop o)))
    (hO : LO M tr pl assign body o) (hs : Nat.beq vs.length pl.length = true) (hlt : pl.all (fun p => Nat.blt p M) = true)
    (h : Wc P (some l) M (RB P l M R body) assign (rfr tr pl vs) w) : Yd P ρ N ⟨d, .call ⟨.value x, xs, as_⟩, ty, ps, af, g⟩ t w R :=
  y_yield vs hx hv H q hq hO.tm pl hO.ps (Nat.eq_of_beq_eq_true hs) hlt (by rw [hO.bdy, hO.asg]; exact h)
def ELq (Q : Exit → Fr → World → Prop) (t : Fr) (W : World) : Option Code → Prop
  | none => Q .normal t W
  | some .ret => Q .ret t W
  | some (.exit i) => Q (.exit i) t W
  | _ => False
/-- The function that was ranged over has returned. -/
def EL (P : Program) (l : Nat) (Q : Exit → Fr → World → Prop) (t : Fr) (w : World) : Prop :=
  ∃ r pd, w.heap[l]? = some (.loop r) ∧ r.state ≠ .busy ∧ r.pending = pd ∧ ELq Q t (w.putObj l (.loop { r with state := .exhausted })) pd
theorem el_n {l M : Nat} {o : Loop} {assign body : Code} {pl : List Nat} {tr : Fr} (H : St X w0 w L) (q : Nat) (hq : L[q]? = some (.obj l (.loop o))) (hO : LO M tr pl assign body o) (h : ∀ w', St X w0 w' (L.set q (.obj l (.loop (lpX o)))) → Q .normal t w') : EL P l Q t w :=
  ⟨o, none, H.get q hq, by rw [hO.st]; nofun, hO.pd, h _ (H.putO q hq _)⟩
theorem el_r {l : Nat} {o : Loop} (H : St X w0 w L) (q : Nat) (hq : L[q]? = some (.obj l (.loop (lpD o .ret)))) (h : ∀ w', St X w0 w' (L.set q (.obj l (.loop (lpX (lpD o .ret))))) → Q .ret t w') : EL P l Q t w :=
  ⟨lpD o .ret, some .ret, H.get q hq, nofun, rfl, h _ (H.putO q hq _)⟩
theorem el_x {l i : Nat} {o : Loop} (H : St X w0 w L) (q : Nat) (hq : L[q]? = some (.obj l (.loop (lpD o (.exit i))))) (h : ∀ w', St X w0 w' (L.set q (.obj l (.loop (lpX (lpD o (.exit i)))))) → Q (.exit i) t w') : EL P l Q t w :=
  ⟨lpD o (.exit i), some (.exit i), H.get q hq, nofun, rfl, h _ (H.putO q hq _)⟩
def JW (P : Program) (ρ : Option Nat) (N : Nat) (Q : Exit → Fr → World → Prop) (a : Act) (W : World) : Option Code → Prop
  | none => ∃ t', Fm N t' a ∧ NP .normal ∧ Q .normal t' W
  | some c => c.wpIn (Fw ρ) 0 P (fun e a' w' => ∃ t', Fm N t' a' ∧ NP e ∧ Q e t' w') a W
theorem elm {a : Act} {pd : Option Code} {W : World} (ha : Fm N t a) (hm : ELq Q t W pd) : JW P ρ N Q a W pd := by
  cases pd with
  | none => exact ⟨t, ha, nofun, hm⟩
  | some c =>
    cases c with
    | ret => exact wpIn_ret ⟨t, ha, nofun, hm⟩
    | exit i => exact wpIn_exit ⟨t, ha, nofun, hm⟩
    | _ => exact hm.elim
theorem el_wp {l : Nat} {a : Act} {w₃ : World} (ha : Fm N t a) (h : EL P l Q t w₃) : ∃ jump w₄, (Instr.endLoop l).run P w₃ = .ok jump w₄ ∧ JW P ρ N Q a w₄ jump := by
  obtain ⟨r, pd, hl, hb, rfl, hm⟩ := h
  exact ⟨r.pending, _, run_endLoop hl hb, elm ha hm⟩
theorem el_range {l : Nat} {a : Act} {w₃ : World} {v : Value} (ha : Fm N t a) (h : EL P l Q t w₃) : rangePost (Fw ρ) 0 P l (fun e a' w' => ∃ t', Fm N t' a' ∧ NP e ∧ Q e t' w') a (.returned v) w₃ := by
  obtain ⟨jump, w4, h1, h2⟩ := el_wp (ρ := ρ) ha h
  refine ⟨jump, w4, h1, ?_⟩
  cases jump with
  | none => exact h2
  | some c => exact h2
theorem rf_invoke {f : Nat} {cap : List Value} {y : Value} (eg : Enters P f) : (invoke (.fn (.func f) cap.toArray) #[y]).run P w = .ok (.enter f (y :: cap).toArray) w := by
  simp [invoke, go_sem]
  exact eg _ _
theorem Fm.push {a : Act} (ha : Fm N t a) (D : Nat) : Fm N (upd t 1000000 (pushM (t 1000000) D)) { a with defers := [mark1 D] ++ a.defers } := by
  refine ⟨ha.small, ?_, ha.size, fun i hi => ?_⟩
  · show mark1 D :: a.defers = marks (upd t 1000000 (pushM (t 1000000) D) 1000000)
    have : upd t 1000000 (pushM (t 1000000) D) 1000000 = pushM (t 1000000) D := rfl
    rw [this, marks_push, ha.defers]
  · show a.tmps.getD i undef = upd t 1000000 _ i
    unfold upd; rw [hi]; exact ha.get i hi
theorem rf_resolve {gg : Operand} {f l : Nat} {cap : Array Value} {a : Act} (hx : a.eval gg = .func (.func f) #[] cap) :
    (resolve a.eval (rangeCall gg l) 0).run P w = .ok { target := .fn (.func f) cap, args := #[.func (.yield l) #[] #[]] } w := by
  simp only [resolve, hx]
  simp [go_sem]
/-- 'for .. := range f': outside of rounds. -/
theorem wc_rf {gg : Operand} {pl : List Nat} {assign body : Code} {f : Nat} {fnc : Func} {c : Code} {v : Value} (n : Nat) (cap : List Value) (hx : ev t gg = .func (.func f) #[] cap.toArray) (h1 : P.funcs[f]? = some fnc) (h0 : (fnc.name == "runtime.NumGoroutine") = false) (h2 : fnc.body = some c) (h3 : fnc.ntmps = n)
    (h4 : Nat.ble (cap.length + 1) n = true) (hs : Nat.ble n 1000000 = true) (H : St X w0 w L) (q : Nat) (hq : L[q]? = some (.mks v)) (hv : t 1000000 = v)
    (h : ∀ v' l o w', LO N t pl assign body o → St X w0 w' (L.set q (.mks v') ++ [.obj l (.loop o)]) →
      Wc P none n (Fini P n fnc fun _ w'' => EL P l Q (upd t 1000000 v') w'') c (t0 (.func (.yield l) #[] #[] :: cap)) w') :
    Wc P none N Q (.rangeFunc gg pl.toArray assign body) t w := by
  intro a ha
  refine wpIn_rangeFunc fun fn _ => ?_
  have hen := run_enterLoop_outer (P := P) (w := w) fn a.tmps pl.toArray assign body
  have H1 := (H.push q hq).obj (.loop { state := .ready, pending := none, fn, tmps := a.tmps, params := pl.toArray, assign, body, defers := w.heap.size })
  rw [World.size_alloc] at H1
  have eg := enters_of (P := P) h1 h0 h2
  refine ⟨w.heap.size + 1, [{ target := .collected w.heap.size, args := #[] }], _, { target := .fn (.func f) cap.toArray, args := #[.func (.yield (w.heap.size + 1)) #[] #[]] }, _, f, (.func (.yield (w.heap.size + 1)) #[] #[] :: cap).toArray, _, hen, rf_resolve (by rw [ha.eval]; exact hx), fun _ _ => trivial, rf_invoke eg, (fun e => by cases e), ?_⟩
  have hw := h _ _ _ _ ⟨rfl, rfl, rfl, rfl, rfl, ha.tm⟩ H1
  have hf := ha.push w.heap.size
  rw [hv] at hf
  refine (callsIn_of_wc h1 h2 h3 (by simpa using Nat.le_of_ble_eq_true h4) (Nat.le_of_ble_eq_true hs) (R := rangePost (Fw none) 0 P (w.heap.size + 1) _ _) ?_)
  exact wc_mono hw fun e t' w' ⟨he, v, ht⟩ => ⟨he, v, tk_mono (fun w'' ⟨hr, hel⟩ => ⟨hr, el_range (ρ := none) hf hel⟩) _ _ ht⟩
/-- 'for .. := range f', in a round of another one. -/
theorem wc_rfR {gg : Operand} {pl : List Nat} {assign body : Code} {f l0 : Nat} {r0 : Loop} {fnc : Func} {c : Code} (n : Nat) (cap : List Value) (hx : ev t gg = .func (.func f) #[] cap.toArray) (h1 : P.funcs[f]? = some fnc) (h0 : (fnc.name == "runtime.NumGoroutine") = false) (h2 : fnc.body = some c) (h3 : fnc.ntmps = n)
    (h4 : Nat.ble (cap.length + 1) n = true) (hs : Nat.ble n 1000000 = true) (H : St X w0 w L) (q : Nat) (hq : L[q]? = some (.obj l0 (.loop r0)))
    (h : ∀ l o w', LO N t pl assign body o → St X w0 w' (L ++ [.obj l (.loop o)]) →
      Wc P none n (Fini P n fnc fun _ w'' => EL P l Q t w'') c (t0 (.func (.yield l) #[] #[] :: cap)) w') :
    Wc P (some l0) N Q (.rangeFunc gg pl.toArray assign body) t w := by
  intro a ha
  refine wpIn_rangeFunc fun fn _ => ?_
  have hl0 : w.heap[l0]? = some (.loop r0) := H.get q hq
  have hen : (Instr.enterLoop fn a.tmps pl.toArray assign body (some l0)).run P w = .ok (w.heap.size, []) (w.alloc (.loop { state := .ready, pending := none, fn, tmps := a.tmps, params := pl.toArray, assign, body, defers := r0.defers })) := by
    unfold Instr.enterLoop
    simp only [Sem.run_bind, run_getLoop hl0, run_newObj_alloc, Result.andThen, Sem.run_pure]
  have H1 := H.obj (.loop { state := .ready, pending := none, fn, tmps := a.tmps, params := pl.toArray, assign, body, defers := r0.defers })
  have eg := enters_of (P := P) h1 h0 h2
  refine ⟨w.heap.size, [], _, { target := .fn (.func f) cap.toArray, args := #[.func (.yield w.heap.size) #[] #[]] }, _, f, (.func (.yield w.heap.size) #[] #[] :: cap).toArray, _, hen, rf_resolve (by rw [ha.eval]; exact hx), fun _ _ => trivial, rf_invoke eg, (fun e => by cases e), ?_⟩
  have hw := h _ _ _ ⟨rfl, rfl, rfl, rfl, rfl, ha.tm⟩ H1
  have hc : CallsIn (Fw none) 0 P f (.func (.yield w.heap.size) #[] #[] :: cap).toArray _ _ := callsIn_of_wc h1 h2 h3 (by simpa using Nat.le_of_ble_eq_true h4) (Nat.le_of_ble_eq_true hs) (R := rangePost (Fw (some l0)) 0 P w.heap.size (fun e a' w' => ∃ t', Fm N t' a' ∧ NP e ∧ Q e t' w') { a with defers := [] ++ a.defers })
    (wc_mono hw fun e t' w' ⟨he, v, ht⟩ => ⟨he, v, tk_mono (fun w'' ⟨hr, hel⟩ => ⟨hr, el_range (ρ := some l0) ha hel⟩) _ _ ht⟩)
  exact hc
/-- The marks are taken. -/
theorem tk_all {K : World → Prop} : ∀ (Ds : List Nat) (w : World), Ds.Nodup → (∀ D ∈ Ds, w.heap[D]? = some (.deferred (some []))) → (∀ w', Ch (fun x => x ∈ Ds) w w' → K w') → Tk P (Ds.map mark1) w K
  | [], w, _, _, h => h w (.refl _ _)
  | D :: Ds, w, hn, hi, h => by
    obtain ⟨h1, h2⟩ := List.nodup_cons.1 hn
    refine ⟨D, _, rfl, run_takeDeferred (hi D List.mem_cons_self), tk_all Ds _ h2 (fun E hE => ?_) fun w' hc => h w' ?_⟩
    · rw [World.putObj_heap_other (fun e : E = D => h1 (by rw [← e]; exact hE))]
      exact hi E (List.mem_cons_of_mem _ hE)
    · exact (Ch.mono (ch_putObj w D _) (fun i _ e => by rw [e]; exact List.mem_cons_self)).trans (Ch.mono hc fun i _ e => List.mem_cons_of_mem _ e)
theorem tkA {v : Value} {K : World → Prop} (H : St X w0 w L) (q : Nat) (hq : L[q]? = some (.mks v)) (hv : t 1000000 = v) (h : ∀ w', St X w0 w' (L.set q (.mks undef)) → K w') : Tk P (marks (t 1000000)) w K := by
  rw [hv]
  have hi := H.get q hq
  exact tk_all _ w hi.1 hi.2 fun w' hc => h w' (H.put q hq hc ⟨List.nodup_nil, fun D h => by cases h⟩ (fun b h => by cases h))
end
end Go.Proofs.Ythfhhnlnlcbckaa.Gw
