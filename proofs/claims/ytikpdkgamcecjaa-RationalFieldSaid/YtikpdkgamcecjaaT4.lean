/- Words for wp_region_each: single operations. -/
import Derived.Test.YtikpdkgamcecjaaT3
import Derived.BigCall
namespace Go.Proofs.Ytikpdkgamcecjaa
open Go.RowKit
set_option linter.unusedSimpArgs false
set_option linter.unusedVariables false

section
variable {ops : Array Oper} {Q : Exit → Act → World → Prop} {o : Oper} {a : Act} {w : World} {K : Act → World → Prop}
theorem wanted_none {y : Nat → Option Bool} (h : o.guard = none) : Region.wanted o y = true := by simp [Region.wanted, h]
theorem wanted_some {tm : Array Value} {g d : Nat} {b : Bool} (h : o.guard = some (g, b)) (hg : (ops[g]?).bind (·.dst) = some d) (hv : tm.getD d undef = .bool b) : Region.wanted o (yielded ops tm) = true := by
  have hv' : tm[d]?.getD undef = .bool b := by rw [← hv]; simp [Array.getD_eq_getD_getElem?]
  simp only [Region.wanted, h, yielded, hg]
  cases e : tm[d]? with
  | none => rw [e] at hv'; cases hv'
  | some v =>
    rw [e] at hv'
    simp only [Option.getD_some] at hv'
    subst hv'
    simp [e]
/-- A function of the program that is entered. -/
def Enters (f : Nat) : Prop := ∀ (args : Array Value) (w : World), (callFunc f args).run Try.prog w = .ok (.enter f args) w
theorem op_call {f : Nat} {xs : Array Operand} {ts : Array TypeId} (hf : Enters f) (ho : o.op = .call { callee := .value (.func f), args := xs, argTypes := ts })
    (h : Calls Try.prog f (xs.map a.eval) w (fun e w' => ∃ v, e = .returned v ∧ K (a.put o.dst v) w')) : Oper.wp Try.prog o a w K Q := by
  obtain ⟨dst, op, ty, pos, after, guard⟩ := o
  simp only at ho
  subst ho
  unfold Oper.wp
  rw [execOp_call_go]
  rw [show (#[] ++ xs.map a.eval ++ #[]) = xs.map a.eval by simp, hf]
  exact Calls.mono h (by rintro e w' ⟨v, rfl, hk⟩; exact hk)
theorem op_call2 {f : Nat} {s u : Nat} {ts : Array TypeId} (hf : Enters f) (ho : o.op = .call { callee := .value (.func f), args := #[.tmp s, .tmp u], argTypes := ts })
    (h : Calls Try.prog f #[a.tmps.getD s undef, a.tmps.getD u undef] w (fun e w' => ∃ v, e = .returned v ∧ K (a.put o.dst v) w')) : Oper.wp Try.prog o a w K Q := by
  refine op_call hf ho ?_
  rw [show (#[Operand.tmp s, Operand.tmp u]).map a.eval = #[a.eval (.tmp s), a.eval (.tmp u)] by simp]
  exact h
theorem op_call1 {f : Nat} {s : Nat} {ts : Array TypeId} (hf : Enters f) (ho : o.op = .call { callee := .value (.func f), args := #[.tmp s], argTypes := ts })
    (h : Calls Try.prog f #[a.tmps.getD s undef] w (fun e w' => ∃ v, e = .returned v ∧ K (a.put o.dst v) w')) : Oper.wp Try.prog o a w K Q := by
  refine op_call hf ho ?_
  rw [show (#[Operand.tmp s]).map a.eval = #[a.eval (.tmp s)] by simp]
  exact h
theorem op_call0 {f : Nat} {ts : Array TypeId} (hf : Enters f) (ho : o.op = .call { callee := .value (.func f), args := #[], argTypes := ts })
    (h : Calls Try.prog f #[] w (fun e w' => ∃ v, e = .returned v ∧ K (a.put o.dst v) w')) : Oper.wp Try.prog o a w K Q := by
  refine op_call hf ho ?_
  rw [show (#[] : Array Operand).map a.eval = #[] by simp]
  exact h
theorem op_pick {c x y : Operand} (ho : o.op = .pick c x y) (hc : a.eval c = .bool true) (h : K (a.put o.dst (a.eval x)) w) : Oper.wp Try.prog o a w K Q := by
  obtain ⟨dst, op, ty, pos, after, guard⟩ := o
  simp only at ho
  subst ho
  unfold Oper.wp
  simp [execOp, hc]
  first
    | exact h
    | (simp [asBool, go_sem]; exact h)
theorem op_load {p g : Nat} {x y z : Value} (ho : o.op = .load 24 (.tmp p)) (hp : a.tmps.getD p undef = .pointer (some ⟨g, 0, none⟩)) (h0 : w.cell? ⟨g, 0, none⟩ = some x) (h1 : w.cell? ⟨g, 1, none⟩ = some y) (h2 : w.cell? ⟨g, 2, none⟩ = some z)
    (h : K (a.put o.dst (.agg #[x, y, z])) w) : Oper.wp Try.prog o a w K Q := by
  obtain ⟨dst, op, ty, pos, after, guard⟩ := o
  simp only at ho
  subst ho
  have hp' : a.eval (.tmp p) = .pointer (some ⟨g, 0, none⟩) := hp
  go_simp
  exact h
/-- What an operation leaves: a known value, or a canonical number. -/
def vk (k : Sum Value (Nat × Rat)) (w : World) (v : Value) : Prop := match k with
  | .inl c => v = c
  | .inr (L, q) => Num true L w v q
def vat (ks : List (Sum Value (Nat × Rat))) (i : Nat) (w : World) (v : Value) : Prop := match ks[i]? with
  | some k => vk k w v
  | none => True
theorem vat_below (ks : List (Sum Value (Nat × Rat))) (j : Nat) (w w' : World) (v : Value) (hb : Below w.heap.size w w') (h : vat ks j w v) : vat ks j w' v := by
  unfold vat at *
  cases e : ks[j]? with
  | none => trivial
  | some k =>
    rw [e] at h
    cases k with
    | inl c => exact h
    | inr p => obtain ⟨L, q⟩ := p; exact Num.below (c := true) h hb
theorem no_dst {t : Nat} {ops : Array Oper} (h : (ops.toList.all fun o => o.dst != some t) = true) : ∀ (j : Nat) oj, ops[j]? = some oj → oj.dst ≠ some t := by
  intro j oj hj e
  have hm : oj ∈ ops.toList := by have := Array.mem_of_getElem? hj; simpa using this
  have := List.all_eq_true.1 h oj hm
  rw [e] at this
  simp at this
theorem enters_add : Enters 43 := fun args w => by kernel_rfl
theorem enters_mul : Enters 21 := fun args w => by kernel_rfl
theorem enters_sub : Enters 45 := fun args w => by kernel_rfl
theorem enters_canon : Enters 48 := fun args w => by kernel_rfl
theorem enters_same : Enters 20 := fun args w => by kernel_rfl
theorem enters_awake : Enters 23 := fun args w => by kernel_rfl
end
end Go.Proofs.Ytikpdkgamcecjaa
