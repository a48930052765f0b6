/- A region that draws its order, by an invariant: each operation, whenever it may come up, keeps it. -/
import Derived.Test.YtikpdkgamcecjaaT1
import Derived.Deep.RegionHeld3
namespace Go.Proofs.Ytikpdkgamcecjaa
open Go.RowKit
set_option linter.unusedSimpArgs false
set_option linter.unusedVariables false

section
variable {P : Program} {ops : Array Oper} {Q : Exit → Act → World → Prop}
theorem count_set_true {l : List Bool} {i : Nat} (h : l[i]? = some false) : (l.set i true).count false + 1 = l.count false := by
  induction l generalizing i with
  | nil => simp at h
  | cons b l ih =>
    cases i with
    | zero =>
      simp at h
      subst h
      simp
    | succ i =>
      simp at h
      have := ih h
      simp only [List.set_cons_succ, List.count_cons]
      omega
theorem all_of_count {l : List Bool} (h : l.count false = 0) (i : Nat) (hi : i < l.length) : l[i]? = some true := by
  have h1 := List.count_eq_zero.1 h
  rw [List.getElem?_eq_getElem hi]
  cases hb : l[i]
  · exact absurd (hb ▸ List.getElem_mem hi) h1
  · rfl
theorem wpAny_inv (I : Array Bool → Act → World → Prop)
    (hstep : ∀ listed a w i o, listed.size = ops.size → ops[i]? = some o → listed.getD i true = false → (∀ e ∈ o.after, Region.binds .any e = true → listed.getD e.on false = true) → I listed a w →
      ∀ K' : Act → World → Prop, (∀ a' w', I (listed.setIfInBounds i true) a' w' → K' a' w') → if Region.wanted o (yielded ops a.tmps) = true then Oper.wp P o a w K' Q else K' (a.put o.dst undef) w)
    (hend : ∀ listed a w, (∀ i, i < ops.size → listed.getD i false = true) → I listed a w → Q .normal a w)
    (hord : ∀ i o, ops[i]? = some o → ∀ e ∈ o.after, Region.binds .any e = true → e.on < i) :
    ∀ (fuel : Nat) (listed : Array Bool) (a : Act) (w : World), listed.size = ops.size → listed.toList.count false = fuel → I listed a w → wpAny P .any ops Q fuel listed a w := by
  have hready : ∀ listed : Array Bool, listed.size = ops.size → Region.ready .any ops listed = [] → ∀ i, i < ops.size → listed.getD i false = true := by
    intro listed hsz hr i
    induction i using Nat.strongRecOn with
    | _ i ih =>
      intro hi
      cases hb : listed.getD i false
      · exfalso
        have hmem : i ∈ Region.ready .any ops listed := by
          rw [mem_ready]
          refine ⟨?_, ops[i], Array.getElem?_eq_getElem hi, fun e he hbe => ?_⟩
          · have h1 : i < listed.size := by omega
            simp [Array.getD, h1] at hb ⊢
            exact hb
          · have h2 := hord i _ (Array.getElem?_eq_getElem hi) e he hbe
            exact ih e.on h2 (by omega)
        rw [hr] at hmem
        cases hmem
      · rfl
  intro fuel
  induction fuel with
  | zero =>
    intro listed a w hsz hc hI
    have hall : ∀ i, i < ops.size → listed.getD i false = true := fun i hi => by
      have h1 : i < listed.size := by omega
      have := all_of_count hc i (by simpa using h1)
      simp [Array.getD, h1]
      simpa [h1] using this
    refine ⟨?_, hend listed a w hall hI⟩
    apply List.eq_nil_iff_forall_not_mem.2
    intro i hi
    obtain ⟨h1, o, ho, _⟩ := mem_ready.1 hi
    have hlt : i < ops.size := (Array.getElem?_eq_some_iff.1 ho).1
    have h2 := hall i hlt
    have h3 : i < listed.size := by omega
    simp [Array.getD, h3] at h1 h2
    rw [h1] at h2; cases h2
  | succ fuel ih =>
    intro listed a w hsz hc hI
    refine ⟨fun hr => hend listed a w (hready listed hsz hr) hI, fun i hi => ?_⟩
    obtain ⟨h1, o, ho, hall⟩ := mem_ready.1 hi
    have hlt : i < ops.size := (Array.getElem?_eq_some_iff.1 ho).1
    refine wpOp_step ho (fun K' hK => ?_)
    refine hstep listed a w i o hsz ho h1 hall hI K' (fun a' w' hI' => hK a' w' (ih _ a' w' (by simpa using hsz) ?_ hI'))
    have h3 : i < listed.size := by omega
    have h4 : listed.toList[i]? = some false := by
      simp [Array.getD, h3] at h1
      simpa [h3] using h1
    have := count_set_true h4
    rw [Array.toList_setIfInBounds]
    omega
/-- What holds in a region at a moment: S of the world; what the listed operations left meets V. -/
structure At (ops : Array Oper) (a0 : Act) (V : Nat → World → Value → Prop) (S : World → Prop) (listed : Array Bool) (a : Act) (w : World) : Prop where
  s : S w
  size : a.tmps.size = a0.tmps.size
  defers : a.defers = a0.defers
  base : ∀ t, (∀ (j : Nat) oj, ops[j]? = some oj → oj.dst ≠ some t) → a.tmps.getD t undef = a0.tmps.getD t undef
  val : ∀ (j : Nat) oj d, ops[j]? = some oj → listed.getD j false = true → oj.dst = some d → V j w (a.tmps.getD d undef)
/-- One operation keeps it. -/
def StepOK (P : Program) (ops : Array Oper) (Q : Exit → Act → World → Prop) (a0 : Act) (V : Nat → World → Value → Prop) (S : World → Prop) (R : World → World → Prop) (i : Nat) (o : Oper) : Prop :=
  ∀ (a : Act) (w : World), S w → a.tmps.size = a0.tmps.size → (∀ t, (∀ (j : Nat) oj, ops[j]? = some oj → oj.dst ≠ some t) → a.tmps.getD t undef = a0.tmps.getD t undef) →
    (∀ e ∈ o.after, Region.binds .any e = true → ∀ oj d, ops[e.on]? = some oj → oj.dst = some d → V e.on w (a.tmps.getD d undef)) →
    ∀ K' : Act → World → Prop, (∀ v w', S w' → R w w' → V i w' v → K' (a.put o.dst v) w') → if Region.wanted o (yielded ops a.tmps) = true then Oper.wp P o a w K' Q else K' (a.put o.dst undef) w
def AllSteps (X : Nat → Oper → Prop) : Nat → List Oper → Prop
  | _, [] => True
  | k, o :: l => X k o ∧ AllSteps X (k + 1) l
theorem allSteps_at {X : Nat → Oper → Prop} : ∀ {l : List Oper} {k : Nat}, AllSteps X k l → ∀ i o, l[i]? = some o → X (k + i) o
  | [], _, _, i, o, h => by simp at h
  | o' :: l, k, hx, 0, o, h => by simp at h; subst h; exact hx.1
  | o' :: l, k, hx, i + 1, o, h => by
    simp at h
    have := allSteps_at hx.2 i o h
    rwa [show k + 1 + i = k + (i + 1) by omega] at this
/-- The destinations are apart and lie in the frame; edges go back. -/
def apartB (n : Nat) (ops : List Oper) : Bool :=
  ((List.range ops.length).all fun i => (List.range i).all fun j => match (ops[i]?).bind (·.dst), (ops[j]?).bind (·.dst) with | some d, some d' => d != d' | _, _ => true) &&
  (ops.all fun o => match o.dst with | some d => decide (d < n) | none => true) &&
  ((List.range ops.length).all fun i => match ops[i]? with | some o => o.after.toList.all fun e => decide (e.on < i) | none => true)
theorem apart_spec {n : Nat} {ops : Array Oper} (h : apartB n ops.toList = true) :
    (∀ (i j : Nat) oi oj d, ops[i]? = some oi → ops[j]? = some oj → oi.dst = some d → oj.dst = some d → i = j) ∧
    (∀ (i : Nat) o d, ops[i]? = some o → o.dst = some d → d < n) ∧
    (∀ (i : Nat) o, ops[i]? = some o → ∀ e ∈ o.after, e.on < i) := by
  unfold apartB at h
  simp only [Bool.and_eq_true, List.all_eq_true, List.mem_range] at h
  obtain ⟨⟨h1, h2⟩, h3⟩ := h
  have key : ∀ (i j : Nat) oi oj d, j < i → ops[i]? = some oi → ops[j]? = some oj → oi.dst = some d → oj.dst = some d → False := by
    intro i j oi oj d hji hi hj hdi hdj
    have hlt : i < ops.toList.length := by have := (Array.getElem?_eq_some_iff.1 hi).1; simpa using this
    have := h1 i hlt j hji
    rw [Array.getElem?_toList, Array.getElem?_toList, hi, hj] at this
    simp [hdi, hdj] at this
  refine ⟨fun i j oi oj d hi hj hdi hdj => ?_, fun i o d hi hd => ?_, fun i o hi e he => ?_⟩
  · rcases Nat.lt_trichotomy i j with h | h | h
    · exact (key j i oj oi d h hj hi hdj hdi).elim
    · exact h
    · exact (key i j oi oj d h hi hj hdi hdj).elim
  · have hm : o ∈ ops.toList := by
      have := Array.mem_of_getElem? hi
      simpa using this
    have := h2 o hm
    rw [hd] at this
    simpa using this
  · have hlt : i < ops.toList.length := by have := (Array.getElem?_eq_some_iff.1 hi).1; simpa using this
    have := h3 i hlt
    rw [Array.getElem?_toList, hi] at this
    simp only [List.all_eq_true, decide_eq_true_eq] at this
    exact this e (by simpa using he)
theorem getD_put_self {a : Act} {d : Nat} {v : Value} (h : d < a.tmps.size) : (a.put (some d) v).tmps.getD d undef = v := by
  simp [Act.put, Array.getD, h]
theorem getD_put_ne {a : Act} {x : Option Nat} {t : Nat} {v : Value} (h : x ≠ some t) : (a.put x v).tmps.getD t undef = a.tmps.getD t undef := by
  cases x with
  | none => rfl
  | some d =>
    have hne : d ≠ t := fun e => h (by rw [e])
    simp [Act.put, Array.getD_eq_getD_getElem?, Array.getElem?_setIfInBounds_ne hne]
theorem put_size {a : Act} {x : Option Nat} {v : Value} : (a.put x v).tmps.size = a.tmps.size := by
  cases x <;> simp [Act.put]
theorem put_defers {a : Act} {x : Option Nat} {v : Value} : (a.put x v).defers = a.defers := by
  cases x <;> rfl
/-- The law. -/
theorem wp_region_each {id : Nat} {a : Act} {w : World} (V : Nat → World → Value → Prop) (S : World → Prop) (R : World → World → Prop)
    (hm : P.follows .mixedOrders = true) (hap : apartB a.tmps.size ops.toList = true) (hS : S w.drew) (hR : ∀ j w w' v, R w w' → V j w v → V j w' v)
    (hsteps : AllSteps (StepOK P ops Q a V S R) 0 ops.toList)
    (hend : ∀ a' w', At ops a V S (Array.replicate ops.size true) a' w' → Q .normal a' w') : (Code.region id ops true).wp P Q a w := by
  obtain ⟨h1, h2, h3⟩ := apart_spec hap
  refine wp_region_any hm (wpAny_inv (At ops a V S) ?_ ?_ (fun i o ho e he _ => h3 i o ho e he) ops.size _ a _ (by simp) (by simp) ⟨hS, rfl, rfl, fun _ _ => rfl, ?_⟩)
  · intro listed a' w' i o hsz ho hli hall hI K' hK
    have hst := allSteps_at hsteps i o (by rw [Array.getElem?_toList]; exact ho)
    rw [Nat.zero_add] at hst
    refine hst a' w' hI.s hI.size hI.base (fun e he hb oj d hoj hd => hI.val e.on oj d hoj (hall e he hb) hd) K' (fun v w'' hs hr hv => hK _ _ ?_)
    refine ⟨hs, put_size.trans hI.size, put_defers.trans hI.defers, fun t ht => ?_, fun j oj d hoj hl hd => ?_⟩
    · rw [getD_put_ne (ht i o ho)]; exact hI.base t ht
    · by_cases hji : j = i
      · subst hji
        rw [ho] at hoj
        injection hoj with hoj
        subst hoj
        rw [hd, getD_put_self (by rw [hI.size]; exact h2 _ _ _ ho hd)]
        exact hv
      · rw [getD_put_ne (fun e => hji (h1 j i oj o d hoj ho hd e))]
        refine hR j w' w'' _ hr (hI.val j oj d hoj ?_ hd)
        rw [Go.getD_set_ne false (fun e => hji e.symm)] at hl
        exact hl
  · intro listed a' w' hall hI
    refine hend a' w' ⟨hI.s, hI.size, hI.defers, hI.base, fun j oj d hoj _ hd => hI.val j oj d hoj (hall j (Array.getElem?_eq_some_iff.1 hoj).1) hd⟩
  · intro j oj d hoj hl _
    have hlt : j < ops.size := (Array.getElem?_eq_some_iff.1 hoj).1
    simp [Array.getD, hlt] at hl
end
end Go.Proofs.Ytikpdkgamcecjaa
