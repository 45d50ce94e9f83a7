/- The base of all walks: frames as functions, one lemma an operation. In the fenced layer, at the fence that asks nothing, in a round of a range over a function or in none. -/
import Derived.WalkKit
import Derived.WalkSpells
import Derived.WalkLawsBesides
import Derived.Lib.Hide
import Derived.KernelRfl
import Derived.Deep.MidRow
import Derived.OrdersHeld
import Derived.OrdersIn
import Derived.TacticsIn
import Derived.RangeFuncIn
import Derived.RangeFuncLeaves
import Derived.RangeFuncRecord
namespace Go.Proofs.Ythfhhnlnlcbckaa.Gw
open Go Go.RowKit
set_option linter.unusedSimpArgs false
set_option linter.unusedVariables false

/-- A frame: its temporaries; at 1000000: the blocks that its ranges over functions have laid. -/
abbrev Fr := Nat → Value
def upd (t : Fr) (d : Nat) (v : Value) : Fr := fun i => bif Nat.beq i d then v else t i
def updO (t : Fr) : Option Nat → Value → Fr
  | some d, v => upd t d v
  | none, _ => t
def ev (t : Fr) : Operand → Value
  | .tmp i => bif Nat.beq i 1000000 then undef else t i
  | .const v => v
  | .global g => .pointer (some ⟨g, 0, none⟩)
  | .func f => .func (.func f) #[] #[]
def ok (N : Nat) : Option Nat → Bool
  | some d => Nat.blt d N
  | none => true
def mark1 (D : Nat) : Deferred := { target := .collected D, args := #[] }
def markL : List Value → List Nat
  | .pointer (some a) :: vs => a.block :: markL vs
  | _ => []
def markB : Value → List Nat
  | .tuple vs => markL vs.toList
  | _ => []
def marks (v : Value) : List Deferred := (markB v).map mark1

/-- A frame of N temporaries that reads as t. -/
structure Fm (N : Nat) (t : Fr) (a : Act) : Prop where
  small : N ≤ 1000000
  defers : a.defers = marks (t 1000000)
  size : a.tmps.size = N
  get : ∀ i, Nat.beq i 1000000 = false → a.tmps.getD i undef = t i

theorem Fm.eval {N : Nat} {t : Fr} {a : Act} (h : Fm N t a) : a.eval = ev t := by
  funext x
  cases x with
  | tmp i =>
    show a.tmps.getD i undef = bif Nat.beq i 1000000 then undef else t i
    cases hb : Nat.beq i 1000000
    · exact h.get i hb
    · have e : i = 1000000 := Nat.eq_of_beq_eq_true hb
      have hn : ¬ i < a.tmps.size := by
        intro hlt
        rw [e, h.size] at hlt
        exact absurd hlt (Nat.not_lt.2 h.small)
      simp [Array.getD, hn]
  | const v => rfl
  | global g => rfl
  | func f => rfl

theorem Fm.put {N : Nat} {t : Fr} {a : Act} (h : Fm N t a) {d : Option Nat} (hd : ok N d = true) (v : Value) : Fm N (updO t d v) (a.put d v) := by
  cases d with
  | none => exact h
  | some d =>
    have hd' : d < N := by simpa [ok, Nat.blt_eq] using hd
    have hne : Nat.beq 1000000 d = false := by
      rw [← Bool.not_eq_true, Nat.beq_eq]; have := h.small; omega
    refine ⟨h.small, ?_, by simp [Act.put, h.size], fun i hi0 => ?_⟩
    · show a.defers = marks (upd t d v 1000000)
      unfold upd; rw [hne]; exact h.defers
    have hi := h.get i hi0
    simp only [Act.put, updO, upd, Array.getD_eq_getD_getElem?] at hi ⊢
    by_cases e : i = d
    · subst e; simp [h.size, hd']
    · have eb : Nat.beq i d = false := by simpa [← Bool.not_eq_true, Nat.beq_eq] using e
      rw [eb, cond_false, ← hi, Array.getElem?_setIfInBounds_ne (fun e' => e e'.symm)]

def yd (ops : Array Oper) (t : Fr) (j : Nat) : Option Bool :=
  match (ops[j]?).bind (·.dst) with
  | some d => match ev t (.tmp d) with
    | .bool b => some b
    | _ => none
  | none => none
/-- The fence that asks nothing, in a round or in none. -/
def Fw (ρ : Option Nat) : Fence := { fn := fun _ => True, depth := none, alive := false, round := ρ }
theorem fw_room (ρ : Option Nat) (n : Nat) : (Fw ρ).room n := fun d h => by cases h

section
variable {P : Program} {ρ : Option Nat} {N : Nat} {Q : Exit → Fr → World → Prop} {t : Fr} {w : World}

def NP (e : Exit) : Prop := ∀ c, e ≠ .panic c
/-- Code from a frame on. -/
def Wc (P : Program) (ρ : Option Nat) (N : Nat) (Q : Exit → Fr → World → Prop) (c : Code) (t : Fr) (w : World) : Prop :=
  ∀ a, Fm N t a → c.wpIn (Fw ρ) 0 P (fun e a' w' => ∃ t', Fm N t' a' ∧ NP e ∧ Q e t' w') a w
def Thn (next : Fr → World → Prop) (Q : Exit → Fr → World → Prop) : Exit → Fr → World → Prop
  | .normal, t, w => next t w
  | e, t, w => Q e t w
def Bk (id : Nat) (Q : Exit → Fr → World → Prop) : Exit → Fr → World → Prop
  | .exit i, t, w => if i = id then Q .normal t w else Q (.exit i) t w
  | e, t, w => Q e t w

theorem wc_seq {x y : Code} (h : Wc P ρ N (Thn (fun t w => Wc P ρ N Q y t w) Q) x t w) : Wc P ρ N Q (.seq x y) t w := by
  intro a ha
  refine wpIn_seq (Code.wpIn_mono ?_ (h a ha))
  rintro e a' w' ⟨t', h1, np, h2⟩
  cases e with
  | normal => exact h2 a' h1
  | exit i => exact ⟨t', h1, np, h2⟩
  | goto i => exact ⟨t', h1, np, h2⟩
  | ret => exact ⟨t', h1, np, h2⟩
  | panic c => exact ⟨t', h1, np, h2⟩
  | outgrown => exact ⟨t', h1, np, h2⟩
theorem wc_skip (h : Q .normal t w) : Wc P ρ N Q .skip t w := fun _ ha => wpIn_skip ⟨t, ha, nofun, h⟩
theorem wc_ret (h : Q .ret t w) : Wc P ρ N Q .ret t w := fun _ ha => wpIn_ret ⟨t, ha, nofun, h⟩
theorem wc_exit {i : Nat} (h : Q (.exit i) t w) : Wc P ρ N Q (.exit i) t w := fun _ ha => wpIn_exit ⟨t, ha, nofun, h⟩
theorem wc_block {i : Nat} {c : Code} (h : Wc P ρ N (Bk i Q) c t w) : Wc P ρ N Q (.block i c) t w := by
  intro a ha
  refine wpIn_block (Code.wpIn_mono ?_ (h a ha))
  rintro e a' w' ⟨t', h1, np, h2⟩
  cases e with
  | exit j =>
    simp only [Bk] at h2; simp only [Exit.inBlock]
    by_cases e : j = i
    · rw [if_pos e] at h2 ⊢; exact ⟨t', h1, nofun, h2⟩
    · rw [if_neg e] at h2 ⊢; exact ⟨t', h1, np, h2⟩
  | normal => exact ⟨t', h1, np, h2⟩
  | goto i => exact ⟨t', h1, np, h2⟩
  | ret => exact ⟨t', h1, np, h2⟩
  | panic c => exact ⟨t', h1, np, h2⟩
  | outgrown => exact ⟨t', h1, np, h2⟩
theorem wc_cond {x : Operand} {c d : Code} {b : Bool} (hx : ev t x = .bool b) (h1 : b = true → Wc P ρ N Q c t w) (h2 : b = false → Wc P ρ N Q d t w) : Wc P ρ N Q (.cond x c d) t w :=
  fun a ha => wpIn_cond_split (by rw [ha.eval]; exact hx) (fun e => h1 e a ha) (fun e => h2 e a ha)
theorem wc_condT {x : Operand} {c d : Code} (hx : ev t x = .bool true) (h1 : Wc P ρ N Q c t w) : Wc P ρ N Q (.cond x c d) t w :=
  fun a ha => wpIn_cond_true (by rw [ha.eval]; exact hx) (h1 a ha)
theorem wc_condF {x : Operand} {c d : Code} (hx : ev t x = .bool false) (h1 : Wc P ρ N Q d t w) : Wc P ρ N Q (.cond x c d) t w :=
  fun a ha => wpIn_cond_false (by rw [ha.eval]; exact hx) (h1 a ha)
theorem wc_mono {Q' : Exit → Fr → World → Prop} {c : Code} (h : Wc P ρ N Q c t w) (hq : ∀ e t w, Q e t w → Q' e t w) : Wc P ρ N Q' c t w :=
  fun a ha => Code.wpIn_mono (fun _ _ _ ⟨t', h1, np, h2⟩ => ⟨t', h1, np, hq _ _ _ h2⟩) (h a ha)
/-- A loop, by a number of rounds. -/
theorem wc_loop {c : Code} (I : Nat → Fr → World → Prop) (k : Nat) (h0 : I k t w)
    (round : ∀ k t w, I k t w → Wc P ρ N (Thn (fun t' w' => ∃ k', k' < k ∧ I k' t' w') Q) c t w) : Wc P ρ N Q (.loop c) t w := by
  intro a ha b kk cs hro hb hr
  have key : ∀ k t w, I k t w → ∀ a, Fm N t a → ∃ e a' w', (∃ t', Fm N t' a' ∧ NP e ∧ Q e t' w') ∧ ArrivesIn (Machine.fenced P (Fw ρ)) P (lone (b.atR a (.code c :: .inLoop c :: kk)) cs w) b kk cs e a' w' := by
    intro k
    induction k using Nat.strongRecOn with
    | _ k ih =>
      intro t w hI a ha
      obtain ⟨e, a₁, w₁, ⟨t₁, f₁, np, hq⟩, harr⟩ := round k t w hI a ha b (.inLoop c :: kk) cs hro hb hr
      cases e with
      | normal =>
        obtain ⟨k', hk, hI'⟩ := hq
        obtain ⟨e₂, a₂, w₂, hq₂, harr₂⟩ := ih k' hk t₁ w₁ hI' a₁ f₁
        exact ⟨e₂, a₂, w₂, hq₂, .of_steps (StepsIn.trans harr (.one (fenced_calm hb hr rfl) stepR_inLoop)) harr₂⟩
      | exit id => exact ⟨_, a₁, w₁, ⟨t₁, f₁, np, hq⟩, .pass (x := .inLoop c) rfl (fun _ _ => .inl (by simp)) harr⟩
      | goto l => exact ⟨_, a₁, w₁, ⟨t₁, f₁, np, hq⟩, .pass (x := .inLoop c) rfl (fun _ _ => .inl (by simp)) harr⟩
      | ret => exact ⟨_, a₁, w₁, ⟨t₁, f₁, np, hq⟩, .pass (x := .inLoop c) rfl (fun _ _ => .inl (by simp)) harr⟩
      | panic ch => exact ⟨_, a₁, w₁, ⟨t₁, f₁, np, hq⟩, .pass (x := .inLoop c) rfl (fun _ _ => .inl (by simp)) harr⟩
      | outgrown => exact ⟨_, a₁, w₁, ⟨t₁, f₁, np, hq⟩, .pass (x := .inLoop c) rfl (fun _ _ => .inl (by simp)) harr⟩
  obtain ⟨e, a', w', hq, harr⟩ := key k t w h0 a ha
  exact ⟨e, a', w', hq, .of_steps (.one (fenced_calm hb hr rfl) stepR_loop) harr⟩

/-! ### The operations of a region, in their order -/
def Wl (P : Program) (ρ : Option Nat) (N : Nat) (ops : Array Oper) (Q : Exit → Fr → World → Prop) (l : List Oper) (t : Fr) (w : World) : Prop :=
  ∀ a, Fm N t a → wpListIn (Fw ρ) 0 P ops (fun e a' w' => ∃ t', Fm N t' a' ∧ NP e ∧ Q e t' w') l a w
theorem wc_region {id : Nat} {l : List Oper} (h : Wl P ρ N l.toArray Q l t w) : Wc P ρ N Q (.region id l.toArray false) t w :=
  fun a ha => wpIn_region_lit (h a ha)
theorem wl_nil {ops : Array Oper} (h : Q .normal t w) : Wl P ρ N ops Q [] t w := fun _ ha => wpListIn_nil ⟨t, ha, nofun, h⟩

/-- An operation: it yields v in w', with R of them. -/
def Yd (P : Program) (ρ : Option Nat) (N : Nat) (o : Oper) (t : Fr) (w : World) (R : Value → World → Prop) : Prop :=
  ∀ a, Fm N t a → ∀ (K : Act → World → Prop) (Q : Exit → Act → World → Prop), (∀ v w', R v w' → K (a.put o.dst v) w') → o.wpIn (Fw ρ) 0 P a w K Q
theorem Yd.mono {o : Oper} {R R' : Value → World → Prop} (h : Yd P ρ N o t w R) (hr : ∀ v w', R v w' → R' v w') : Yd P ρ N o t w R' :=
  fun a ha K Q hk => h a ha K Q fun v w' r => hk v w' (hr v w' r)
theorem wl_op {ops : Array Oper} {o : Oper} {rest : List Oper} (hg : o.guard = none) (hd : ok N o.dst = true)
    (h : Yd P ρ N o t w fun v w' => Wl P ρ N ops Q rest (updO t o.dst v) w') : Wl P ρ N ops Q (o :: rest) t w := by
  intro a ha
  refine wpListIn_plain hg fun K hK => ?_
  exact h a ha K _ fun v w' r => hK _ _ (r _ (ha.put hd v))
theorem yielded_eq {ops : Array Oper} {a : Act} (ha : Fm N t a) {j : Nat} {b : Bool} (h : yd ops t j = some b) : yielded ops a.tmps j = some b := by
  unfold yd at h; unfold yielded
  cases hd : (ops[j]?).bind (·.dst) with
  | none => rw [hd] at h; cases h
  | some d =>
    rw [hd] at h
    simp only [Option.bind_some] at h ⊢
    have hg : a.tmps.getD d undef = ev t (.tmp d) := by rw [← ha.eval]; rfl
    rw [Array.getD_eq_getD_getElem?] at hg
    cases hq : a.tmps[d]? with
    | none => rw [hq] at hg; simp only [Option.getD_none] at hg; rw [← hg] at h; simp [undef] at h
    | some v => rw [hq] at hg; simp only [Option.getD_some] at hg; rw [hg]; revert h; cases ev t (.tmp d) <;> simp
theorem wl_on {ops : Array Oper} {d : Option Nat} {op : Op} {ty : TypeId} {ps : String} {af : Array Edge} {j : Nat} {b c : Bool} {rest : List Oper}
    (hy' : yd ops t j = some c) (hcb : c = b) (hd : ok N d = true)
    (h : Yd P ρ N ⟨d, op, ty, ps, af, some (j, b)⟩ t w fun v w' => Wl P ρ N ops Q rest (updO t d v) w') : Wl P ρ N ops Q (⟨d, op, ty, ps, af, some (j, b)⟩ :: rest) t w := by
  have hy : yd ops t j = some b := hcb ▸ hy'
  intro a ha
  refine wpListIn_step fun K hK => ?_
  rw [if_pos (by simp [Region.wanted, yielded_eq ha hy])]
  exact h a ha K _ fun v w' r => hK _ _ (r _ (ha.put hd v))
theorem wl_off {ops : Array Oper} {d : Option Nat} {op : Op} {ty : TypeId} {ps : String} {af : Array Edge} {j : Nat} {b c c' : Bool} {rest : List Oper}
    (hy' : yd ops t j = some c') (hcc : c' = c) (hbc : (c == b) = false) (hd : ok N d = true)
    (h : Wl P ρ N ops Q rest (updO t d undef) w) : Wl P ρ N ops Q (⟨d, op, ty, ps, af, some (j, b)⟩ :: rest) t w := by
  have hy : yd ops t j = some c := hcc ▸ hy'
  intro a ha
  refine wpListIn_step fun K hK => ?_
  rw [if_neg (by simp [Region.wanted, yielded_eq ha hy]; intro e; subst e; simp at hbc)]
  exact ⟨fun _ _ => trivial, hK _ _ (h _ (ha.put hd undef))⟩

/-- What comes to something other than a call put off is the same in a round. -/
theorem semAt_of {o : Oper} {f : Operand → Value} {x : Next} {w' : World} (hr : (execOp f o).run P w = .ok x w') (hx : ∀ d, x ≠ .defer d) : (o.semAt ρ f).run P w = .ok x w' := by
  by_cases h : ∃ c, o.op = .defer c
  · obtain ⟨c, hc⟩ := h
    unfold execOp at hr
    rw [hc] at hr
    simp only [Sem.run_bind] at hr
    cases hrr : (resolve f c o.type).run P w with
    | ok d w1 => rw [hrr] at hr; simp only [Result.andThen, Sem.run_pure, Result.ok.injEq] at hr; exact absurd hr.1.symm (hx d)
    | halt e w1 => rw [hrr] at hr; cases hr
  · rw [Oper.semAt_eq _ _ _ fun c hc => h ⟨c, hc⟩]; exact hr
theorem y_val {o : Oper} {R : Value → World → Prop} {v : Value} {w' : World} (hr : (execOp (ev t) o).run P w = .ok (.value v) w') (h : R v w') : Yd P ρ N o t w R := by
  intro a ha K Q hk
  refine ⟨fun _ _ => trivial, ?_⟩
  have := semAt_of (ρ := ρ) hr (fun d e => by cases e)
  show o.uponIn (Fw ρ) 0 P a K Q ((o.semAt ρ a.eval).run P w)
  rw [ha.eval, this]; exact hk v w' h
theorem y_skip {o : Oper} {R : Value → World → Prop} {w' : World} (hr : (execOp (ev t) o).run P w = .ok .skip w') (h : R undef w') : Yd P ρ N o t w R := by
  intro a ha K Q hk
  refine ⟨fun _ _ => trivial, ?_⟩
  have := semAt_of (ρ := ρ) hr (fun d e => by cases e)
  show o.uponIn (Fw ρ) 0 P a K Q ((o.semAt ρ a.eval).run P w)
  rw [ha.eval, this]; exact hk undef w' h
theorem calls_fw {f : Nat} {args : Array Value} {R : Ending → World → Prop} (h : Calls P f args w R) : CallsIn (Fw ρ) 0 P f args w R := by
  have h' : CallsIn Fence.wide 0 P f args w R := callsIn_wide.2 h
  exact h'
theorem y_enter {o : Oper} {R : Value → World → Prop} {f : Nat} {args : Array Value} {w' : World} (hr : (execOp (ev t) o).run P w = .ok (.enter f args) w')
    (h : Calls P f args w' fun e w'' => ∃ v, e = .returned v ∧ R v w'') : Yd P ρ N o t w R := by
  intro a ha K Q hk
  refine ⟨fun _ _ => trivial, ?_⟩
  have := semAt_of (ρ := ρ) hr (fun d e => by cases e)
  show o.uponIn (Fw ρ) 0 P a K Q ((o.semAt ρ a.eval).run P w)
  rw [ha.eval, this]
  refine ⟨(fun e => by cases e), (calls_fw h).mono ?_⟩
  rintro e w'' ⟨v, rfl, r⟩
  exact hk v w'' r

/-! ### A region that draws its order: S holds behind each operation but those of ds, which come last -/
end
section
variable {P : Program} {ρ : Option Nat} {ops : Array Oper} {Q : Exit → Act → World → Prop} {md : Region.Mode} {S : World → Prop} {ds : List Nat}
theorem yieldsIf_wpOpIn {i : Nat} {o : Oper} {v : Value} {a : Act} (hi : ops[i]? = some o) (hy : YieldsIf P ops S o v a)
    {K : Act → World → Prop} {w : World} (hS : S w) (h : K (a.put o.dst v) w) : wpOpIn (Fw ρ) 0 P ops Q i K a w := by
  unfold Go.wpOpIn
  simp only [hi]
  rcases hy with ⟨hw, hv⟩ | ⟨hw, rfl⟩
  · simp only [hw, if_true]
    refine ⟨fun _ _ => trivial, ?_⟩
    have := semAt_of (ρ := ρ) (hv w hS) (fun d e => by cases e)
    show o.uponIn (Fw ρ) 0 P a K Q ((o.semAt ρ a.eval).run P w)
    rw [this]; exact h
  · simp only [hw, Bool.false_eq_true, if_false]; exact ⟨fun _ _ => trivial, h⟩
theorem wpOpIn_putIf {j : Nat} {oi oj : Oper} {v : Value} (hj : ops[j]? = some oj) (hap : oi.apart ops oj = true)
    (hsi : ∀ cs b, oi.op ≠ .select cs b) (hsj : ∀ cs b, oj.op ≠ .select cs b) (hdj : ∀ c, oj.op ≠ .defer c)
    (hQ : ∀ c a w, Q (.panic c) (a.put oi.dst v) w → Q (.panic c) a w) (hL : LetsOut Q → LetsOut Q) {K : Act → World → Prop} {a : Act} {w : World}
    (hy : YieldsIf P ops S oi v a) (h : wpOpIn (Fw ρ) 0 P ops Q j K (a.put oi.dst v) w) :
    wpOpIn (Fw ρ) 0 P ops Q j (fun a' w' => YieldsIf P ops S oi v a' ∧ K (a'.put oi.dst v) w') a w := by
  obtain ⟨h1, h2, h3⟩ := Oper.apart_spec hap
  have keep : ∀ (a : Act), YieldsIf P ops S oi v a → ∀ u, YieldsIf P ops S oi v (a.put oj.dst u) := fun a hy u =>
    hy.of_same (execOp_put oi hsi a oj.dst u h3) (wanted_put oi a oj.dst u h3)
  have keepD : ∀ d, YieldsIf P ops S oi v { a with defers := d :: a.defers } := fun d => hy.of_same rfl rfl
  unfold wpOpIn at *
  simp only [hj] at *
  rw [wanted_put oj a oi.dst v h1] at h
  split
  · rename_i hw
    simp only [hw, if_true] at h
    refine ⟨fun _ _ => trivial, ?_⟩
    have h' : oj.uponIn (Fw ρ) 0 P (a.put oi.dst v) K Q ((oj.semAt ρ (a.put oi.dst v).eval).run P w) := h.2
    show oj.uponIn (Fw ρ) 0 P a _ Q ((oj.semAt ρ a.eval).run P w)
    rw [Oper.semAt_eq _ _ _ hdj] at h' ⊢
    rw [execOp_put oj hsj a oi.dst v h1] at h'
    generalize (execOp a.eval oj).run P w = r at *
    cases r with
    | ok n w' =>
      cases n <;> simp only [Oper.uponIn] at h' ⊢
      case value u => exact ⟨keep a hy u, by rw [← Act.put_comm a v u h2]; exact h'⟩
      case skip => exact ⟨keep a hy _, by rw [← Act.put_comm a v undef h2]; exact h'⟩
      case defer d =>
        refine ⟨keep _ (keepD d) _, ?_⟩
        rw [← Act.put_comm _ v undef h2, ← Act.put_defers]
        exact h'
      case enter f args =>
        refine ⟨h'.1, CallsIn.mono h'.2 fun e w'' he => ?_⟩
        cases e with
        | returned u => exact ⟨keep a hy u, by rw [← Act.put_comm a v u h2]; exact he⟩
        | panicked c => exact hQ _ _ _ he
        | outgrown => exact he
      case row row args => exact ⟨h'.1, RowsIn.mono h'.2 fun u w'' he => ⟨keep a hy u, by rw [← Act.put_comm a v u h2]; exact he⟩⟩
      case round l f tmps assign body =>
        refine ⟨h'.1, RoundIn.mono h'.2 fun e w'' he => ?_⟩
        cases e with
        | returned u => exact ⟨keep a hy u, by rw [← Act.put_comm a v u h2]; exact he⟩
        | panicked c => exact hQ _ _ _ he
        | outgrown => exact he
    | halt x w' =>
      cases x <;> simp only [Oper.uponIn] at h' ⊢
      case panic u => exact hQ _ _ _ h'
  · rename_i hw
    simp only [hw, if_false] at h
    refine ⟨fun _ _ => trivial, keep a hy undef, ?_⟩
    rw [← Act.put_comm a v undef h2]
    exact h.2
def noDefer (ops : Array Oper) : Bool := ops.toList.all fun o => match o.op with | .defer _ => false | _ => true
theorem noDefer_spec (h : noDefer ops = true) (j : Nat) (o : Oper) (c : Call) (hj : ops[j]? = some o) : o.op ≠ .defer c := by
  intro e
  have hm : o ∈ ops.toList := by
    have : ops.toList[j]? = some o := by simpa using hj
    exact List.mem_of_getElem? this
  have := List.all_eq_true.1 h o hm
  rw [e] at this
  cases this
def wpL (P : Program) (ρ : Option Nat) (md : Region.Mode) (ops : Array Oper) (Q : Exit → Act → World → Prop) (S : World → Prop) (ds : List Nat) : Nat → Array Bool → Act → World → Prop
  | 0, listed, a, w => Region.ready md ops listed = [] ∧ Q .normal a w
  | fuel + 1, listed, a, w =>
    (Region.ready md ops listed = [] → Q .normal a w) ∧
    ∀ i ∈ Region.ready md ops listed, wpOpIn (Fw ρ) 0 P ops Q i (fun a' w' => (i ∉ ds → S w') ∧ wpL P ρ md ops Q S ds fuel (listed.setIfInBounds i true) a' w') a w
theorem wpAny_of_L : ∀ (fuel : Nat) (listed : Array Bool) (a : Act) (w : World), wpL P ρ md ops Q S ds fuel listed a w → wpAnyIn (Fw ρ) 0 P md ops Q fuel listed a w
  | 0, _, _, _, h => h
  | fuel + 1, _, _, _, h => ⟨h.1, fun i hi => wpOpIn_mono (fun a' w' h' => wpAny_of_L fuel _ a' w' h'.2) (h.2 i hi)⟩
theorem wpL_first {i : Nat} {oi : Oper} {v : Value} (hi : ops[i]? = some oi) (hsel : ∀ (j : Nat) (o : Oper) cs b, ops[j]? = some o → o.op ≠ .select cs b) (hdef : ∀ (j : Nat) (o : Oper) c, ops[j]? = some o → o.op ≠ .defer c)
    (hds : ∀ d ∈ ds, d ≠ i → ∀ od, ops[d]? = some od → ∃ e ∈ od.after, Region.binds md e = true ∧ e.on = i)
    (hQ : ∀ c a w, Q (.panic c) (a.put oi.dst v) w → Q (.panic c) a w) :
    ∀ (fuel : Nat) (listed : Array Bool) (a : Act) (w : World),
      (∀ j oj, ops[j]? = some oj → j ≠ i → listed.getD j true = false → (∀ e ∈ oj.after, Region.binds md e = true → e.on ≠ i) → oi.apart ops oj = true) →
      i ∈ Region.ready md ops listed → YieldsIf P ops S oi v a → S w →
      wpL P ρ md ops Q S ds fuel (listed.setIfInBounds i true) (a.put oi.dst v) w → wpL P ρ md ops Q S ds (fuel + 1) listed a w := by
  intro fuel
  induction fuel with
  | zero =>
    intro listed a w _ hr hy hS H
    refine ⟨fun h => (by rw [h] at hr; cases hr), fun j hj => ?_⟩
    by_cases hji : j = i
    · subst hji; exact yieldsIf_wpOpIn hi hy hS ⟨fun _ => hS, H⟩
    · have := ready_mono hj hji
      rw [H.1] at this
      cases this
  | succ fuel ih =>
    intro listed a w hfree hr hy hS H
    refine ⟨fun h => (by rw [h] at hr; cases hr), fun j hj => ?_⟩
    by_cases hji : j = i
    · subst hji; exact yieldsIf_wpOpIn hi hy hS ⟨fun _ => hS, H⟩
    · have h1 := H.2 j (ready_mono hj hji)
      obtain ⟨hjun, oj, hoj, hall⟩ := mem_ready.1 hj
      have hnot : ∀ e ∈ oj.after, Region.binds md e = true → e.on ≠ i := fun e he hb heq => by
        have h1 := hall e he hb
        have h0 := (mem_ready.1 hr).1
        rw [heq] at h1
        rcases Nat.lt_or_ge i listed.size with h' | h'
        · simp [h'] at h0 h1; rw [h0] at h1; cases h1
        · simp [Array.getElem?_eq_none h'] at h1
      have hjd : j ∉ ds := fun hd => by
        obtain ⟨e, he, hb, ho⟩ := hds j hd hji oj hoj
        exact hnot e he hb ho
      have h2 := wpOpIn_putIf hoj (hfree j oj hoj hji hjun hnot) (fun cs b => hsel i oi cs b hi) (fun cs b => hsel j oj cs b hoj) (fun c => hdef j oj c hoj) hQ id hy h1
      have hfree' : ∀ k ok, ops[k]? = some ok → k ≠ i → (listed.setIfInBounds j true).getD k true = false →
          (∀ e ∈ ok.after, Region.binds md e = true → e.on ≠ i) → oi.apart ops ok = true := fun k ok hk hki hun hno => by
        refine hfree k ok hk hki ?_ hno
        by_cases hjk : j = k
        · subst hjk; exact hjun
        · rw [getD_set_ne true hjk] at hun; exact hun
      refine wpOpIn_mono (fun a' w' h3 => ⟨h3.2.1, ih (listed.setIfInBounds j true) a' w' hfree' (ready_mono hr (Ne.symm hji)) h3.1 (h3.2.1 hjd) ?_⟩) h2
      rw [Array.setIfInBounds_comm _ _ hji]
      exact h3.2.2
theorem wpL_take {i : Nat} {oi : Oper} {v : Value} {fuel : Nat} {listed : Array Bool} {a : Act} {w : World} (hi : ops[i]? = some oi)
    (hs : Region.noSelect ops = true) (hn : noDefer ops = true) (hds : ∀ d ∈ ds, d ≠ i → ∀ od, ops[d]? = some od → ∃ e ∈ od.after, Region.binds md e = true ∧ e.on = i) (hf : Region.free md ops listed i = true) (hr : (Region.ready md ops listed).contains i = true)
    (hQ : ∀ c a w, Q (.panic c) (a.put oi.dst v) w → Q (.panic c) a w) (hy : YieldsIf P ops S oi v a) (hS : S w)
    (h : wpL P ρ md ops Q S ds fuel (listed.setIfInBounds i true) (a.put oi.dst v) w) : wpL P ρ md ops Q S ds (fuel + 1) listed a w :=
  wpL_first hi (Region.noSelect_spec hs) (noDefer_spec hn) hds hQ fuel listed a w (Region.free_spec hi hf) (by simpa using hr) hy hS h
theorem wpL_done {listed : Array Bool} {a : Act} {w : World} (hr : Region.ready md ops listed = []) (h : Q .normal a w) :
    ∀ fuel, wpL P ρ md ops Q S ds fuel listed a w
  | 0 => ⟨hr, h⟩
  | _ + 1 => ⟨fun _ => h, by rw [hr]; simp⟩
/-- All of ds but i wait for i. -/
def waitB (ops : Array Oper) (ds : List Nat) (i : Nat) : Bool :=
  ds.all fun d => d == i || ((ops[d]?).all fun o => o.after.any fun e => Region.binds .any e && e.on == i)
theorem waitB_spec {i : Nat} (h : waitB ops ds i = true) : ∀ d ∈ ds, d ≠ i → ∀ od, ops[d]? = some od → ∃ e ∈ od.after, Region.binds .any e = true ∧ e.on = i := by
  intro d hd hne od ho
  have h1 := List.all_eq_true.1 h d hd
  simp only [Bool.or_eq_true, beq_iff_eq, hne, false_or, ho, Option.all_some, Array.any_eq_true', Bool.and_eq_true] at h1
  exact h1
end
section
variable {P : Program} {ρ : Option Nat} {N : Nat} {Q : Exit → Fr → World → Prop} {t : Fr} {w : World}
def Wa (P : Program) (ρ : Option Nat) (N : Nat) (ops : Array Oper) (Q : Exit → Fr → World → Prop) (S : World → Prop) (ds : List Nat) (n : Nat) (l : Array Bool) (t : Fr) (w : World) : Prop :=
  ∀ a, Fm N t a → wpL P ρ .any ops (fun e a' w' => ∃ t', Fm N t' a' ∧ NP e ∧ Q e t' w') S ds n l a w
theorem wc_drawn {id n : Nat} {l : List Oper} {S : World → Prop} {ds : List Nat} (hm : P.follows .mixedOrders = true) (hn : l.length = n)
    (h : Wa P ρ N l.toArray Q S ds n (Array.replicate n false) t w.drew) : Wc P ρ N Q (.region id l.toArray true) t w := by
  intro a ha
  subst hn
  exact wpIn_region_any hm (wpAny_of_L _ _ _ _ (h a ha))
theorem wa_done {ops : Array Oper} {S : World → Prop} {ds : List Nat} {n : Nat} {l : Array Bool} (hr : (Region.ready .any ops l == []) = true) (h : Q .normal t w) : Wa P ρ N ops Q S ds n l t w := by
  intro a ha
  exact wpL_done (by simpa using hr) ⟨t, ha, nofun, h⟩ n
def takeB (ops : Array Oper) (ds : List Nat) (l l' : Array Bool) (i : Nat) : Bool :=
  noDefer ops && Region.noSelect ops && waitB ops ds i && Region.free .any ops l i && (Region.ready .any ops l).contains i && (l.setIfInBounds i true == l')
theorem wa_take {ops : Array Oper} {S : World → Prop} {ds : List Nat} {n : Nat} {l l' : Array Bool} {i : Nat} {o : Oper} {v : Value} (hi : ops[i]? = some o) (hg : o.guard = none) (hd : ok N o.dst = true)
    (hc : takeB ops ds l l' i = true) (hS : S w) (hr : ∀ w, S w → (execOp (ev t) o).run P w = .ok (.value v) w)
    (h : Wa P ρ N ops Q S ds n l' (updO t o.dst v) w) : Wa P ρ N ops Q S ds (n + 1) l t w := by
  simp only [takeB, Bool.and_eq_true, beq_iff_eq] at hc
  obtain ⟨⟨⟨⟨⟨hnd, h1⟩, h0⟩, h2⟩, h3⟩, h4⟩ := hc
  intro a ha
  refine wpL_take hi h1 hnd (waitB_spec h0) h2 h3 (fun c _ _ h => h.elim fun _ h => (h.2.1 c rfl).elim) (.inl ⟨by simp [Region.wanted, hg], fun w hw => by rw [ha.eval]; exact hr w hw⟩) hS ?_
  rw [h4]
  exact h _ (ha.put hd v)
theorem wa_takeOn {ops : Array Oper} {S : World → Prop} {ds : List Nat} {n : Nat} {l l' : Array Bool} {i j : Nat} {o : Oper} {v : Value} {b c : Bool} (hi : ops[i]? = some o) (hg : o.guard = some (j, b)) (hy' : yd ops t j = some c) (hcb : c = b) (hd : ok N o.dst = true)
    (hc : takeB ops ds l l' i = true) (hS : S w) (hr : ∀ w, S w → (execOp (ev t) o).run P w = .ok (.value v) w)
    (h : Wa P ρ N ops Q S ds n l' (updO t o.dst v) w) : Wa P ρ N ops Q S ds (n + 1) l t w := by
  have hy : yd ops t j = some b := hcb ▸ hy'
  simp only [takeB, Bool.and_eq_true, beq_iff_eq] at hc
  obtain ⟨⟨⟨⟨⟨hnd, h1⟩, h0⟩, h2⟩, h3⟩, h4⟩ := hc
  intro a ha
  refine wpL_take hi h1 hnd (waitB_spec h0) h2 h3 (fun c _ _ h => h.elim fun _ h => (h.2.1 c rfl).elim) (.inl ⟨by simp [Region.wanted, hg, yielded_eq ha hy], fun w hw => by rw [ha.eval]; exact hr w hw⟩) hS ?_
  rw [h4]
  exact h _ (ha.put hd v)
theorem wa_off {ops : Array Oper} {S : World → Prop} {ds : List Nat} {n : Nat} {l l' : Array Bool} {i j : Nat} {o : Oper} {b c c' : Bool} (hi : ops[i]? = some o) (hg : o.guard = some (j, b)) (hy' : yd ops t j = some c') (hcc : c' = c) (hbc : (c == b) = false) (hd : ok N o.dst = true)
    (hc : takeB ops ds l l' i = true) (hS : S w) (h : Wa P ρ N ops Q S ds n l' (updO t o.dst undef) w) : Wa P ρ N ops Q S ds (n + 1) l t w := by
  have hy : yd ops t j = some c := hcc ▸ hy'
  simp only [takeB, Bool.and_eq_true, beq_iff_eq] at hc
  obtain ⟨⟨⟨⟨⟨hnd, h1⟩, h0⟩, h2⟩, h3⟩, h4⟩ := hc
  intro a ha
  refine wpL_take hi h1 hnd (waitB_spec h0) h2 h3 (fun c _ _ h => h.elim fun _ h => (h.2.1 c rfl).elim) (.inr ⟨by simp [Region.wanted, hg, yielded_eq ha hy]; intro e; subst e; simp at hbc, rfl⟩) hS ?_
  rw [h4]
  exact h _ (ha.put hd undef)
/-- The one that may come up: whatever it does. -/
theorem wa_one {ops : Array Oper} {S : World → Prop} {ds : List Nat} {n : Nat} {l l' : Array Bool} {i : Nat} {o : Oper} (hi : ops[i]? = some o) (hg : o.guard = none) (hd : ok N o.dst = true)
    (hc : ((Region.ready .any ops l == [i]) && (l.setIfInBounds i true == l')) = true)
    (h : Yd P ρ N o t w fun v w' => (i ∉ ds → S w') ∧ Wa P ρ N ops Q S ds n l' (updO t o.dst v) w') : Wa P ρ N ops Q S ds (n + 1) l t w := by
  simp only [Bool.and_eq_true, beq_iff_eq] at hc
  obtain ⟨h1, h2⟩ := hc
  intro a ha
  refine ⟨fun h0 => (by rw [h1] at h0; cases h0), fun j hj => ?_⟩
  rw [h1, List.mem_singleton] at hj
  subst hj
  unfold wpOpIn
  simp only [hi, Region.wanted, hg, if_true]
  refine h a ha _ _ fun v w' ⟨s, r⟩ => ⟨s, ?_⟩
  rw [h2]
  exact r _ (ha.put hd v)
theorem wa_oneV {ops : Array Oper} {S : World → Prop} {ds : List Nat} {n : Nat} {l l' : Array Bool} {i : Nat} {o : Oper} {v : Value} (hi : ops[i]? = some o) (hg : o.guard = none) (hd : ok N o.dst = true)
    (hc : ((Region.ready .any ops l == [i]) && (l.setIfInBounds i true == l')) = true) (hS : S w) (hr : (execOp (ev t) o).run P w = .ok (.value v) w)
    (h : Wa P ρ N ops Q S ds n l' (updO t o.dst v) w) : Wa P ρ N ops Q S ds (n + 1) l t w := wa_one hi hg hd hc (y_val hr ⟨fun _ => hS, h⟩)
theorem wc_condT2 {x : Operand} {c d : Code} {b : Bool} (hx : ev t x = .bool b) (hb : b = true) (h1 : Wc P ρ N Q c t w) : Wc P ρ N Q (.cond x c d) t w := wc_condT (hb ▸ hx) h1
theorem wc_condF2 {x : Operand} {c d : Code} {b : Bool} (hx : ev t x = .bool b) (hb : b = false) (h1 : Wc P ρ N Q d t w) : Wc P ρ N Q (.cond x c d) t w := wc_condF (hb ▸ hx) h1
/-! ### A call -/
def t0 (args : List Value) : Fr := fun i => args.getD i undef
def Tk (P : Program) : List Deferred → World → (World → Prop) → Prop
  | [], w, K => K w
  | d :: ds, w, K => ∃ D w1, d = mark1 D ∧ (Instr.takeDeferred D).run P w = .ok [] w1 ∧ Tk P ds w1 K
/-- The end of a call's body: what it hands back, once the marks have been taken. -/
def Fini (P : Program) (N : Nat) (fn : Func) (R : Value → World → Prop) (e : Exit) (t : Fr) (w : World) : Prop :=
  (e = .ret ∨ e = .normal) ∧ ∃ v, Tk P (marks (t 1000000)) w fun w' => (∀ a, Fm N t a → (results fn a.tmps).run P w' = .ok v w') ∧ R v w'
theorem tk_leaves {fn : Func} {tm : Array Value} {R : Ending → World → Prop} {v : Value} : ∀ (ds : List Deferred) (w : World), Tk P ds w (fun w' => (results fn tm).run P w' = .ok v w' ∧ R (.returned v) w') → LeavesInM (Fw none) 0 P fn tm R ds .returning w
  | [], w, h => ⟨v, h.1, h.2⟩
  | d :: ds, w, ⟨D, w1, hd, ht, h⟩ => ⟨nofun, .inl ⟨D, w1, by rw [hd]; rfl, ht, tk_leaves ds w1 h⟩⟩
theorem tk_mono {K K' : World → Prop} (hk : ∀ w, K w → K' w) : ∀ (ds : List Deferred) (w : World), Tk P ds w K → Tk P ds w K'
  | [], w, h => hk w h
  | d :: ds, w, ⟨D, w1, hd, ht, h⟩ => ⟨D, w1, hd, ht, tk_mono hk ds w1 h⟩
theorem fm_start {args : List Value} {n : Nat} (hl : args.length ≤ n) (hs : n ≤ 1000000) : Fm n (t0 args) { tmps := args.toArray ++ Array.replicate (n - args.toArray.size) undef, defers := [] } := by
  refine ⟨hs, ?_, by simp; omega, fun i hi0 => ?_⟩
  · have : t0 args 1000000 = undef := by simp only [t0, List.getD_eq_getElem?_getD]; rw [List.getElem?_eq_none (by omega)]; rfl
    rw [this]; rfl
  simp only [t0, Array.getD_eq_getD_getElem?, List.getD_eq_getElem?_getD, Array.getElem?_append]
  by_cases hi : i < args.length
  · simp [hi]
  · simp [hi, Array.getElem?_replicate]
    split <;> rfl
theorem callsIn_of_wc {f : Nat} {fn : Func} {c : Code} {args : List Value} {R : Ending → World → Prop} (hf : P.funcs[f]? = some fn) (hb : fn.body = some c)
    (hN : fn.ntmps = N) (hl : args.length ≤ N) (hs : N ≤ 1000000)
    (h : Wc P none N (Fini P N fn fun v w' => R (.returned v) w') c (t0 args) w) :
    CallsIn (Fw none) 0 P f args.toArray w R := by
  subst hN
  refine callsIn_of_wp_marks hf hb trivial ?_
  refine Code.wpIn_mono ?_ (h _ (fm_start hl hs))
  rintro e a w' ⟨t', fa, _, he, v, ht⟩
  have key : LeavesInM (Fw none) 0 P fn a.tmps R a.defers .returning w' := by
    rw [fa.defers]
    exact tk_leaves _ _ (tk_mono (fun w ⟨h1, h2⟩ => ⟨h1 a fa, h2⟩) _ _ ht)
  rcases he with rfl | rfl
  · exact key
  · exact key
theorem calls_of_wc {f : Nat} {fn : Func} {c : Code} {args : List Value} {R : Ending → World → Prop} (hf : P.funcs[f]? = some fn) (hb : fn.body = some c)
    (hN : fn.ntmps = N) (hl : args.length ≤ N)
    (h : Wc P none N (Fini P N fn fun v w' => R (.returned v) w') c (t0 args) w) (hs : Nat.ble N 1000000 = true := by rfl) :
    Calls P f args.toArray w R := by
  have h' := callsIn_of_wc hf hb hN hl (Nat.le_of_ble_eq_true hs) h
  have h'' : CallsIn Fence.wide 0 P f args.toArray w R := h'
  exact callsIn_wide.1 h''
theorem tk0 {x : Value} {K : World → Prop} (hx : marks x = []) (h : K w) : Tk P (marks x) w K := by rw [hx]; exact h

theorem wl_val {ops : Array Oper} {o : Oper} {rest : List Oper} {v : Value} (hg : o.guard = none) (hd : ok N o.dst = true) (hr : (execOp (ev t) o).run P w = .ok (.value v) w)
    (h : Wl P ρ N ops Q rest (updO t o.dst v) w) : Wl P ρ N ops Q (o :: rest) t w := wl_op hg hd (y_val hr h)
theorem wl_onv {ops : Array Oper} {d : Option Nat} {op : Op} {ty : TypeId} {ps : String} {af : Array Edge} {j : Nat} {b c : Bool} {rest : List Oper} {v : Value}
    (hy : yd ops t j = some c) (hcb : c = b) (hd : ok N d = true) (hr : (execOp (ev t) ⟨d, op, ty, ps, af, some (j, b)⟩).run P w = .ok (.value v) w)
    (h : Wl P ρ N ops Q rest (updO t d v) w) : Wl P ρ N ops Q (⟨d, op, ty, ps, af, some (j, b)⟩ :: rest) t w := wl_on hy hcb hd (y_val hr h)

/-! ### Plain operations -/
section ops
/-- It yields v, and leaves the world alone. -/
def Rv (P : Program) (o : Oper) (t : Fr) (w : World) (v : Value) : Prop := (execOp (ev t) o).run P w = .ok (.value v) w
variable {d : Option Nat} {ty T T' : TypeId} {ps : String} {af : Array Edge} {g : Option (Nat × Bool)} {x y z : Operand} {k : IntKind} {a b : Int}
theorem r_move  : Rv P ⟨d, .move x, ty, ps, af, g⟩ t w (ev t x) := rfl
theorem r_assign  : Rv P ⟨d, .assign x, ty, ps, af, g⟩ t w (ev t x) := rfl
theorem r_pick {c : Bool} (hx : ev t x = .bool c) : Rv P ⟨d, .pick x y z, ty, ps, af, g⟩ t w (if c then ev t y else ev t z) := (by unfold Rv; simp only [execOp, hx]; cases c <;> rfl)
theorem r_pickT {c : Bool} (hx : ev t x = .bool c) (hc : c = true) : Rv P ⟨d, .pick x y z, ty, ps, af, g⟩ t w (ev t y) := (by subst hc; unfold Rv; simp only [execOp, hx]; rfl)
theorem r_pickF {c : Bool} (hx : ev t x = .bool c) (hc : c = false) : Rv P ⟨d, .pick x y z, ty, ps, af, g⟩ t w (ev t z) := (by subst hc; unfold Rv; simp only [execOp, hx]; rfl)
theorem r_extract {vs : Array Value} {i : Nat} {v : Value} (hx : ev t x = .tuple vs) (hv : vs[i]? = some v) : Rv P ⟨d, .extract x i, ty, ps, af, g⟩ t w (v) := (by unfold Rv; simp [execOp, hx, Instr.extract, hv, go_sem])
theorem r_lss (hx : ev t x = .int k a) (hy : ev t y = .int k b) : Rv P ⟨d, .binOp .lss T x y T', ty, ps, af, g⟩ t w (.bool (decide (a < b))) := (by unfold Rv; simp [execOp, hx, hy, go_sem])
theorem r_leq (hx : ev t x = .int k a) (hy : ev t y = .int k b) : Rv P ⟨d, .binOp .leq T x y T', ty, ps, af, g⟩ t w (.bool (decide (a ≤ b))) := (by unfold Rv; simp [execOp, hx, hy, go_sem])
theorem r_gtr (hx : ev t x = .int k a) (hy : ev t y = .int k b) : Rv P ⟨d, .binOp .gtr T x y T', ty, ps, af, g⟩ t w (.bool (decide (b < a))) := (by unfold Rv; simp [execOp, hx, hy, go_sem])
theorem r_geq (hx : ev t x = .int k a) (hy : ev t y = .int k b) : Rv P ⟨d, .binOp .geq T x y T', ty, ps, af, g⟩ t w (.bool (decide (b ≤ a))) := (by unfold Rv; simp [execOp, hx, hy, go_sem])
theorem r_eql (hx : ev t x = .int k a) (hy : ev t y = .int k b) : Rv P ⟨d, .binOp .eql T x y T', ty, ps, af, g⟩ t w (.bool (decide (a = b))) := (by unfold Rv; simp [execOp, hx, hy, go_sem]; rfl)
theorem r_neq (hx : ev t x = .int k a) (hy : ev t y = .int k b) : Rv P ⟨d, .binOp .neq T x y T', ty, ps, af, g⟩ t w (.bool (!decide (a = b))) := (by unfold Rv; simp [execOp, hx, hy, go_sem]; rfl)
theorem r_add (hx : ev t x = .int k a) (hy : ev t y = .int k b) : Rv P ⟨d, .binOp .add T x y T', ty, ps, af, g⟩ t w (.int k (k.wrap (a + b))) := (by unfold Rv; simp [execOp, hx, hy, go_sem])
theorem r_sub (hx : ev t x = .int k a) (hy : ev t y = .int k b) : Rv P ⟨d, .binOp .sub T x y T', ty, ps, af, g⟩ t w (.int k (k.wrap (a - b))) := (by unfold Rv; simp [execOp, hx, hy, go_sem])
theorem r_mul (hx : ev t x = .int k a) (hy : ev t y = .int k b) : Rv P ⟨d, .binOp .mul T x y T', ty, ps, af, g⟩ t w (.int k (k.wrap (a * b))) := (by unfold Rv; simp [execOp, hx, hy, go_sem])
theorem r_quo (hx : ev t x = .int k a) (hy : ev t y = .int k b) (hb : b ≠ 0) : Rv P ⟨d, .binOp .quo T x y T', ty, ps, af, g⟩ t w (.int k (k.wrap (a.tdiv b))) := (by unfold Rv; simp [execOp, hx, hy, hb, go_sem])
theorem r_rem (hx : ev t x = .int k a) (hy : ev t y = .int k b) (hb : b ≠ 0) : Rv P ⟨d, .binOp .rem T x y T', ty, ps, af, g⟩ t w (.int k (a.tmod b)) := (by unfold Rv; simp [execOp, hx, hy, hb, go_sem])
theorem r_and (hx : ev t x = .int k a) (hy : ev t y = .int k b) : Rv P ⟨d, .binOp .and T x y T', ty, ps, af, g⟩ t w (.int k (bits .and k a b)) := (by unfold Rv; simp [execOp, hx, hy, go_sem])
theorem r_or (hx : ev t x = .int k a) (hy : ev t y = .int k b) : Rv P ⟨d, .binOp .or T x y T', ty, ps, af, g⟩ t w (.int k (bits .or k a b)) := (by unfold Rv; simp [execOp, hx, hy, go_sem])
theorem r_xor (hx : ev t x = .int k a) (hy : ev t y = .int k b) : Rv P ⟨d, .binOp .xor T x y T', ty, ps, af, g⟩ t w (.int k (bits .xor k a b)) := (by unfold Rv; simp [execOp, hx, hy, go_sem])
theorem r_andNot (hx : ev t x = .int k a) (hy : ev t y = .int k b) : Rv P ⟨d, .binOp .andNot T x y T', ty, ps, af, g⟩ t w (.int k (bits .andNot k a b)) := (by unfold Rv; simp [execOp, hx, hy, go_sem])
theorem r_shl {k' : IntKind} (hx : ev t x = .int k a) (hy : ev t y = .int k' b) (hb : 0 ≤ b) : Rv P ⟨d, .binOp .shl T x y T', ty, ps, af, g⟩ t w (.int k (k.wrap (a * 2 ^ (min b.toNat k.bits)))) := (by
  have hb' : ¬ b < 0 := by omega
  unfold Rv; simp only [execOp, hx, hy, eqGuard, binOp, Op.shift, hb', if_false, Sem.run_bind]; rfl)
theorem r_shr {k' : IntKind} (hx : ev t x = .int k a) (hy : ev t y = .int k' b) (hb : 0 ≤ b) : Rv P ⟨d, .binOp .shr T x y T', ty, ps, af, g⟩ t w (.int k (a.fdiv (2 ^ (min b.toNat k.bits)))) := (by
  have hb' : ¬ b < 0 := by omega
  unfold Rv; simp only [execOp, hx, hy, eqGuard, binOp, Op.shift, hb', if_false, Sem.run_bind]; rfl)
theorem run_equalIn_bool (n : Nat) (hT : P.underlying T = some .bool) (c c' : Bool) : (Op.equalIn (n + 1) T (.bool c) (.bool c')).run P w = .ok (c == c') w := by
  simp [Op.equalIn, run_underlying hT]
theorem run_equal_bool (hT : P.underlying T = some .bool) (c c' : Bool) : (Op.equal T (.bool c) (.bool c')).run P w = .ok (c == c') w := run_equalIn_bool (w := w) 9999 hT c c'
theorem r_beql {c c' : Bool} (hT : P.underlying T = some .bool) (hx : ev t x = .bool c) (hy : ev t y = .bool c') : Rv P ⟨d, .binOp .eql T x y T', ty, ps, af, g⟩ t w (.bool (c == c')) := (by
  have h1 := run_equal_bool (w := w) hT c c'
  unfold Rv; simp [execOp, hx, hy, eqGuard, binOp, Sem.run_bind, h1])
theorem r_bneq {c c' : Bool} (hT : P.underlying T = some .bool) (hx : ev t x = .bool c) (hy : ev t y = .bool c') : Rv P ⟨d, .binOp .neq T x y T', ty, ps, af, g⟩ t w (.bool (c != c')) := (by
  have h1 := run_equal_bool (w := w) hT c c'
  unfold Rv; simp [execOp, hx, hy, eqGuard, binOp, Sem.run_bind, h1]; try (cases c <;> cases c' <;> rfl))
def min2 (a b : Int) : Int := if b < a then b else a
def max2 (a b : Int) : Int := if a < b then b else a
theorem r_min {TS : Array TypeId} (hx : ev t x = .int k a) (hy : ev t y = .int k b) : Rv P ⟨d, .call ⟨.builtin .min, #[x, y], TS⟩, ty, ps, af, g⟩ t w (.int k (min2 a b)) := (by unfold Rv; simp [execOp, resolve, invoke, builtin, hx, hy, Builtin.min_, Builtin.min2, min2, go_sem])
theorem r_max {TS : Array TypeId} (hx : ev t x = .int k a) (hy : ev t y = .int k b) : Rv P ⟨d, .call ⟨.builtin .max, #[x, y], TS⟩, ty, ps, af, g⟩ t w (.int k (max2 a b)) := (by unfold Rv; simp [execOp, resolve, invoke, builtin, hx, hy, Builtin.max_, Builtin.max2, max2, go_sem])
theorem r_not {c : Bool} (hx : ev t x = .bool c) : Rv P ⟨d, .unOp .not T x, ty, ps, af, g⟩ t w (.bool (!c)) := (by unfold Rv; simp [execOp, hx, go_sem])
theorem r_neg (hx : ev t x = .int k a) : Rv P ⟨d, .unOp .neg T x, ty, ps, af, g⟩ t w (.int k (k.wrap (-a))) := (by unfold Rv; simp [execOp, hx, go_sem])
theorem r_conv {k' : IntKind} (hx : ev t x = .int k a) {D : TypeDesc} (h1 : P.underlying T = some D) (h2 : P.underlying T' = some (.int k')) : Rv P ⟨d, .convert T T' x, ty, ps, af, g⟩ t w (.int k' (k'.wrap a)) := (by unfold Rv; simp [execOp, hx, convert, run_underlying h1, run_underlying h2, go_sem])
end ops
end
end Go.Proofs.Ythfhhnlnlcbckaa.Gw
