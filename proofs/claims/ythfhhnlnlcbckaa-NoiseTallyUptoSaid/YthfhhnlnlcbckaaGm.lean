/- Operations on memory, calls. -/
import Derived.Test.YthfhhnlnlcbckaaGs
import Derived.Laws.MakeOwn
import Derived.Laws.OwnMore
namespace Go.Proofs.Ythfhhnlnlcbckaa.Gw
open Go Go.RowKit
set_option linter.unusedSimpArgs false
set_option linter.unusedVariables false

/-- What the program's tables say of a type. -/
def Sc (P : Program) (T : TypeId) : Prop := ∃ D, P.underlying T = some D ∧ D.isRow = false
def Ag (P : Program) (T : TypeId) (n : Nat) : Prop := ∃ D, P.underlying T = some D ∧ D.isRow = true ∧ (P.info? T).map (·.size) = some n
def Sz (P : Program) (T : TypeId) (n : Nat) : Prop := (P.info? T).map (·.size) = some n
def Fa (P : Program) (T : TypeId) (f off : Nat) : Prop := ∃ fs fd, P.underlying T = some (.struct fs) ∧ fs[f]? = some fd ∧ fd.offset = off ∧ ∃ n, (P.info? fd.type).map (·.size) = some (n + 1)
/-- A slice type: its elements' type, their cells, their bytes, the value of naught. -/
def Sl (P : Program) (T E sz by_ : Nat) (z : Value) : Prop := P.underlying T = some (.slice E) ∧ ∃ i, P.info? E = some i ∧ i.size = sz ∧ i.bytes = by_ ∧ i.zero = some z ∧ z.cells.size = sz ∧ 0 < sz
def En (P : Program) (f : FuncId) : Prop := ∃ fn c, P.funcs[f]? = some fn ∧ (fn.name == "runtime.NumGoroutine") = false ∧ fn.body = some c

section ops
variable {P : Program} {ρ : Option Nat} {N : Nat} {t : Fr} {w : World} {R : Value → World → Prop} {d : Option Nat} {ty T T' : TypeId} {ps : String} {af : Array Edge} {g : Option (Nat × Bool)} {x y z : Operand} {k : IntKind} {a b o : Nat}

theorem y_box {cs : Array Value} (hx : (ev t x).cells = cs) (h : R (.pointer (some ⟨w.heap.size, 0, none⟩)) (w.alloc (.cells cs T))) : Yd P ρ N ⟨d, .box T x, ty, ps, af, g⟩ t w R :=
  y_val (by subst hx; simp [execOp, Instr.box, newVar, newRow, go_sem]) h
theorem y_alloc {v : Value} {cs : Array Value} (hz : (P.info? T).bind (·.zero) = some v) (hc : v.cells = cs) (h : R (.pointer (some ⟨w.heap.size, 0, none⟩)) (w.alloc (.cells cs T))) : Yd P ρ N ⟨d, .alloc T, ty, ps, af, g⟩ t w R := by
  refine y_val ?_ h
  cases hi : P.info? T with
  | none => simp [hi] at hz
  | some i =>
    have hz' : i.zero = some v := by simpa [hi] using hz
    subst hc
    simp [execOp, Instr.alloc, zeroValue, typeInfo, hi, hz', newVar, newRow, go_sem]
theorem run_load_cell {p : Addr} {v : Value} (hc : w.cell? p = some v) : (load p).run P w = .ok v w := by
  simp [go_sem, hc]
theorem r_load {p : Addr} {v : Value} (hT : Sc P T) (hx : ev t x = .pointer (some p)) (hc : w.cell? p = some v) : Rv P ⟨d, .load T x, ty, ps, af, g⟩ t w (v) := by
  obtain ⟨D, h1, h2⟩ := hT
  unfold Rv
  have hagg : (isAgg T).run P w = .ok false w := by
    unfold isAgg
    rw [Sem.run_bind, run_underlying h1 w]
    cases D <;> simp_all
  simp [execOp, hx, Instr.loadAt, Instr.sureAddr, loadVar, Sem.run_bind, hagg, hc]
theorem r_loadA {cs : List Value} (hT : Ag P T cs.length) (hx : ev t x = .pointer (some ⟨b, o, none⟩)) (hc : w.rangeAt b o cs) : Rv P ⟨d, .load T x, ty, ps, af, g⟩ t w (.agg cs.toArray) := by
  obtain ⟨D, h1, h2, h3⟩ := hT
  unfold Rv
  simp only [execOp, hx, Sem.run_bind, run_loadAt_mid w b o T cs D hc h1 h2 h3]; rfl
theorem y_store {p : Addr} {v old : Value} (hT : Sz P T 1) (hx : ev t x = .pointer (some p)) (hy : (ev t y).cells = #[v]) (h1 : v.oneCell' = true) (hc : w.cell? p = some old) (hf : w.frozen? p = false) (h : R undef (w.setCell p v)) :
    Yd P ρ N ⟨d, .store T x y, ty, ps, af, g⟩ t w R := by
  refine y_skip ?_ h
  unfold Sz at hT
  cases hi : P.info? T with
  | none => simp [hi] at hT
  | some i =>
    have hs : i.size = 1 := by simpa [hi] using hT
    have h0 : p.add 0 = p := rfl
    have hst : (storeVar T p (ev t y)).run P w = .ok () (w.setCell p v) := by
      unfold storeVar
      rw [hy]
      simp [sizeOf, typeInfo, hi, hs, storeCells, h0, run_store P w p v _ h1, stored, hc, hf]
    simp only [execOp, hx, Instr.storeAt, Instr.sureAddr, Sem.run_bind, Sem.run_pure, Result.andThen_ok, hst]
theorem y_storeA {cs : Array Value} (hT : Sz P T cs.size) (hx : ev t x = .pointer (some ⟨b, o, none⟩)) (hy : ev t y = .agg cs) (ht : w.there b o cs.size) (h1 : cs.all (·.oneCell') = true) (h : R undef (w.setCells b o cs.toList)) :
    Yd P ρ N ⟨d, .store T x y, ty, ps, af, g⟩ t w R :=
  y_skip (by simp only [execOp, hx, hy, Sem.run_bind, run_storeAt_mid w b o T cs ht hT h1]; rfl) h
theorem r_faddr {f off : Nat} (hT : Fa P T f off) (hx : ev t x = .pointer (some ⟨b, o, none⟩)) : Rv P ⟨d, .fieldAddr T x f, ty, ps, af, g⟩ t w (.pointer (some ⟨b, o + off, none⟩)) := by
  obtain ⟨fs, fd, h1, h2, h3, n, h4⟩ := hT
  unfold Rv
  cases hi : P.info? fd.type with
  | none => simp [hi] at h4
  | some i =>
    have hs : i.size = n + 1 := by simpa [hi] using h4
    simp [execOp, hx, Instr.fieldAt, Instr.sureAddr, run_underlying h1, h2, fieldPlace, sizeOf, typeInfo, hi, hs, h3, Addr.add_mid, go_sem]
theorem r_iaddr {E sz by_ : Nat} {zz : Value} {i : Int} {n c : Nat} (hT : Sl P T E sz by_ zz) (hx : ev t x = .slice (some ⟨b, o, none⟩) n c) (hy : ev t y = .int k i) (h0 : 0 ≤ i) (h1 : i < n) : Rv P ⟨d, .indexAddr T x y, ty, ps, af, g⟩ t w (.pointer (some ⟨b, o + i.toNat * sz, none⟩)) := by
  obtain ⟨h2, j, h3, h4, h5, h6, h7, h8⟩ := hT
  unfold Rv
  simp [execOp, hx, hy, Instr.indexAt, run_underlying h2, sizeOf, typeInfo, h3, h4, h0, h1, Addr.add_mid, go_sem]
theorem r_len {n c : Nat} {p : Option Addr} {E : TypeId} {TS : Array TypeId} (hT : (TS[0]?).bind P.underlying = some (.slice E)) (hx : ev t x = .slice p n c) : Rv P ⟨d, .call ⟨.builtin .len, #[x], TS⟩, ty, ps, af, g⟩ t w (.int .i64 n) := by
  cases h0 : TS[0]? with
  | none => simp [h0] at hT
  | some T0 =>
    have hT' : P.underlying T0 = some (.slice E) := by simpa [h0] using hT
    unfold Rv
    simp [execOp, resolve, invoke, builtin, hx, Builtin.len_, h0, run_underlying hT', goInt, go_sem]
theorem r_cap {n c : Nat} {p : Option Addr} {E : TypeId} {TS : Array TypeId} (hT : (TS[0]?).bind P.underlying = some (.slice E)) (hx : ev t x = .slice p n c) : Rv P ⟨d, .call ⟨.builtin .cap, #[x], TS⟩, ty, ps, af, g⟩ t w (.int .i64 c) := by
  cases h0 : TS[0]? with
  | none => simp [h0] at hT
  | some T0 =>
    have hT' : P.underlying T0 = some (.slice E) := by simpa [h0] using hT
    unfold Rv
    simp [execOp, resolve, invoke, builtin, hx, Builtin.cap_, h0, run_underlying hT', goInt, go_sem]
theorem run_callFunc_en {f : FuncId} (hf : En P f) (args : Array Value) (w : World) : (callFunc f args).run P w = .ok (.enter f args) w := by
  obtain ⟨fn, c, h1, h2, h3⟩ := hf
  have h2' : ¬ fn.name = "runtime.NumGoroutine" := by simpa using h2
  simp [callFunc, h1, h2', h3, go_sem]
/-- A call of a function by its name. -/
theorem y_call {f : FuncId} {xs : Array Operand} {as : Array TypeId} {vs : Array Value} (hf : En P f) (hv : xs.map (ev t) = vs) (h : Calls P f vs w fun e w'' => ∃ v, e = .returned v ∧ R v w'') :
    Yd P ρ N ⟨d, .call ⟨.value (.func f), xs, as⟩, ty, ps, af, g⟩ t w R := by
  refine y_enter (f := f) (args := vs) (w' := w) ?_ h
  subst hv
  simp [execOp, resolve, Deferred.ofValue, ev, invoke, run_callFunc_en hf, go_sem]
/-- A call of a function value. -/
theorem y_callv {f : FuncId} {xs : Array Operand} {as : Array TypeId} {vs cap : Array Value} (hx : ev t x = .func (.func f) #[] cap) (hf : En P f) (hv : xs.map (ev t) ++ cap = vs) (h : Calls P f vs w fun e w'' => ∃ v, e = .returned v ∧ R v w'') :
    Yd P ρ N ⟨d, .call ⟨.value x, xs, as⟩, ty, ps, af, g⟩ t w R := by
  refine y_enter (f := f) (args := vs) (w' := w) ?_ h
  subst hv
  simp [execOp, resolve, Deferred.ofValue, hx, invoke, run_callFunc_en hf, go_sem]
theorem r_makeFunc {fn : Fn} {xs ys : Array Operand} {vs us : Array Value} (hx : xs.map (ev t) = vs) (hy : ys.map (ev t) = us) : Rv P ⟨d, .makeFunc fn xs ys, ty, ps, af, g⟩ t w (.func fn vs us) := by
  subst hx; subst hy
  rfl
end ops
end Go.Proofs.Ythfhhnlnlcbckaa.Gw
