import Derived.Test.YtbfgnpbkgegegaaRows
import Derived.WalkKit
import Derived.WalkSpells
import Derived.KernelRfl
import Derived.RowKit
import Derived.Lib.Hide
import Derived.Outline
import Derived.Deep.RegionHeld3
import Derived.Deep.QuietTactic
import Derived.BigQuiet
namespace Go.Proofs.Ytbfgnpbkgegegaa
open Go.RowKit
set_option linter.unusedSimpArgs false
set_option linter.unusedVariables false

theorem bl_alloc {w W : World} (h : Below w.heap.size w W) (o : Obj) : Below w.heap.size w (W.alloc o) := h.alloc h.size o
theorem bl_drew {B : Nat} {w W : World} (h : Below B w W) : Below B w W.drew := ⟨h.os, h.tape, h.output, h.size, h.block⟩
theorem bl_drewN {B : Nat} {w W : World} (h : Below B w W) (n : Nat) : Below B w (W.drewN n) := ⟨h.os, h.tape, h.output, h.size, h.block⟩
theorem bl_call {w w1 w2 : World} (h : Below w.heap.size w w1) (k : Below w1.heap.size w1 w2) : Below w.heap.size w w2 :=
  h.trans ⟨k.os, k.tape, k.output, k.size, fun i hi => k.block i (Nat.lt_of_lt_of_le hi h.size)⟩
theorem bl_set {w W : World} (h : Below w.heap.size w W) {a : Addr} (hB : w.heap.size ≤ a.block) (v : Value) : Below w.heap.size w (W.setCell a v) := h.setCell hB v

theorem blk_set {w : World} {g : Nat} {t : TypeId} {cs : Array Value} (h : w.heap[g]? = some (.cells cs t (0, 0))) (i : Nat) (u : Value) : (w.setCell ⟨g, i, none⟩ u).heap[g]? = some (.cells (cs.setIfInBounds i u) t (0, 0)) := by
  simp [World.setCell, Array.getElem?_modify, h]
theorem blk_cell {w : World} {g : Nat} {t : TypeId} {cs : Array Value} (h : w.heap[g]? = some (.cells cs t (0, 0))) (i : Nat) : w.cell? ⟨g, i, none⟩ = cs[i]? := cell_of_row w g i cs t (0, 0) h
theorem blk_frozen {w : World} {g : Nat} {t : TypeId} {cs : Array Value} (h : w.heap[g]? = some (.cells cs t (0, 0))) (i : Nat) : w.frozen? ⟨g, i, none⟩ = false := by simp [World.frozen?, h]
theorem blk_lt {w : World} {g : Nat} {o : Obj} (h : w.heap[g]? = some o) : g < w.heap.size := (Array.getElem?_eq_some_iff.1 h).1
theorem blk_far {w : World} {g : Nat} {o : Obj} (h : w.heap[g]? = some o) {p : Addr} (hp : g ≠ p.block) (u : Value) : (w.setCell p u).heap[g]? = some o := (Below.heap_setCell w p u g hp).trans h
theorem blk_below {w w1 : World} {g : Nat} {o : Obj} (h : w.heap[g]? = some o) (hb : Below w.heap.size w w1) : w1.heap[g]? = some o := (hb.block g (blk_lt h)).trans h
theorem blk_new (w : World) (o : Obj) : (w.alloc o).heap[w.heap.size]? = some o := heap_alloc_new w o
theorem blk_new' {w : World} {g : Nat} (hg : g = w.heap.size) (o : Obj) : (w.alloc o).heap[g]? = some o := by subst hg; exact heap_alloc_new w o
theorem blk_alloc {w : World} {g : Nat} {o : Obj} (h : w.heap[g]? = some o) (o' : Obj) : (w.alloc o').heap[g]? = some o := blk_below h (bl_alloc (Below.refl _ _) o')

def fitsB (n p : Int) : Bool := decide (-1152921504606846976 ≤ n ∧ n ≤ 1152921504606846976 ∧ 0 ≤ p ∧ p ≤ 1152921504606846976 ∧ n ≤ p)

set_option maxHeartbeats 1000000 in
theorem fits_any (n p : Int) (w : World) : Calls Try.prog 42 #[.agg #[.int .i64 n, .int .i64 p]] w fun e w' => e = .returned (.bool (fitsB n p)) ∧ Below w.heap.size w w' := by
  go_enter Try.func42, Try.ntmps42
  go_wp2
  all_goals go_ret
  all_goals refine ⟨?_, (Below.refl _ _).alloc (Nat.le_refl _) _⟩
  all_goals (refine congrArg (fun b => Ending.returned (.bool b)) ?_)
  all_goals (unfold fitsB; simp [*] <;> omega)

theorem fits_of {n p : Int} (h : fitsB n p = true) : -1152921504606846976 ≤ n ∧ n ≤ 1152921504606846976 ∧ 0 ≤ p ∧ p ≤ 1152921504606846976 ∧ n ≤ p := of_decide_eq_true h
def thenN (an ap bn bp : Int) : Int := if (fitsB an ap && fitsB bn bp) = true then an + bn else 0
def thenP (an ap bn bp : Int) : Int := if (fitsB an ap && fitsB bn bp) = true then max ap (an + bp) else 0

theorem bcell {W w1 : World} (hb : Below W.heap.size W w1) : (∀ b o, b < W.heap.size → w1.cell? ⟨b, o, none⟩ = W.cell? ⟨b, o, none⟩) ∧ (∀ b o, b < W.heap.size → w1.frozen? ⟨b, o, none⟩ = W.frozen? ⟨b, o, none⟩) :=
  ⟨fun b o h => hb.cell (p := ⟨b, o, none⟩) h, fun b o h => hb.frozen (p := ⟨b, o, none⟩) h⟩
theorem thenB_false {an ap bn bp : Int} (h : (fitsB an ap && fitsB bn bp) = false) : thenN an ap bn bp = 0 ∧ thenP an ap bn bp = 0 := by
  unfold thenN thenP; rw [h]; simp
set_option maxHeartbeats 1000000 in
theorem then_any (an ap bn bp : Int) (w : World) : Calls Try.prog 21 #[.agg #[.int .i64 an, .int .i64 ap], .agg #[.int .i64 bn, .int .i64 bp]] w fun e w' => e = .returned (.agg #[.int .i64 (thenN an ap bn bp), .int .i64 (thenP an ap bn bp)]) ∧ Below w.heap.size w w' := by
  cases ha : fitsB an ap
  · obtain ⟨e1, e2⟩ := thenB_false (bn := bn) (bp := bp) (show (fitsB an ap && fitsB bn bp) = false by rw [ha]; rfl)
    rw [e1, e2]; clear e1 e2
    go_enter Try.func21, Try.ntmps21
    go_wp2_with fail
    refine (fits_any _ _ _).mono ?_
    rintro e w1 ⟨rfl, hb⟩
    obtain ⟨hc, hf⟩ := bcell hb
    have hz := hb.size
    go_wp2_with fail
    refine bodyPost_ret (v := .agg #[.int .i64 0, .int .i64 0]) (by simp [results, Try.results21, go_sem, hc, hz]) rfl ⟨rfl, ?_⟩
    repeat (first | exact Below.refl _ _ | apply bl_alloc | apply bl_drew | (refine bl_set ?_ (by simp <;> omega) _) | (refine bl_call ?_ (by assumption)))
  · cases hb : fitsB bn bp
    · obtain ⟨e1, e2⟩ := thenB_false (show (fitsB an ap && fitsB bn bp) = false by rw [ha, hb]; rfl)
      rw [e1, e2]; clear e1 e2
      go_enter Try.func21, Try.ntmps21
      go_wp2_with fail
      refine (fits_any _ _ _).mono ?_
      rintro e w1 ⟨rfl, hb1⟩
      obtain ⟨hc, hf⟩ := bcell hb1
      have hz := hb1.size
      go_wp2_with fail
      refine (fits_any _ _ _).mono ?_
      rintro e w2 ⟨rfl, hb2⟩
      obtain ⟨hc2, hf2⟩ := bcell hb2
      have hz2 := hb2.size
      simp at hz
      have g1 : w.heap.size < w1.heap.size := by omega
      have g2 : w.heap.size + 1 < w1.heap.size := by omega
      have g3 : w.heap.size + 1 + 1 < w1.heap.size := by omega
      go_wp2_with fail
      refine bodyPost_ret (v := .agg #[.int .i64 0, .int .i64 0]) (by simp [results, Try.results21, go_sem, hc, hc2, hz, hz2, g1, g2, g3]) rfl ⟨rfl, ?_⟩
      repeat (first | exact Below.refl _ _ | apply bl_alloc | apply bl_drew | (refine bl_set ?_ (by simp <;> omega) _) | (refine bl_call ?_ (by assumption)))
    · obtain ⟨a1, a2, a3, a4, a5⟩ := fits_of ha
      obtain ⟨b1, b2, b3, b4, b5⟩ := fits_of hb
      have e1 : thenN an ap bn bp = an + bn := by unfold thenN; rw [ha, hb]; rfl
      have e2 : thenP an ap bn bp = max ap (an + bp) := by unfold thenP; rw [ha, hb]; rfl
      rw [e1, e2]; clear e1 e2
      go_enter Try.func21, Try.ntmps21
      go_wp2_with fail
      refine (fits_any _ _ _).mono ?_
      rintro e w1 ⟨rfl, hb1⟩
      obtain ⟨hc, hf⟩ := bcell hb1
      have hz := hb1.size
      go_wp2_with fail
      refine (fits_any _ _ _).mono ?_
      rintro e w2 ⟨rfl, hb2⟩
      obtain ⟨hc2, hf2⟩ := bcell hb2
      have hz2 := hb2.size
      simp at hz
      have g1 : w.heap.size < w1.heap.size := by omega
      have g2 : w.heap.size + 1 < w1.heap.size := by omega
      have g3 : w.heap.size + 1 + 1 < w1.heap.size := by omega
      go_wp2_with fail
      all_goals refine bodyPost_ret (v := .agg #[.int .i64 (an + bn), .int .i64 (max ap (an + bp))]) (by simp [results, Try.results21, go_sem, hc, hc2, hz, hz2, g1, g2, g3]; try omega) rfl ⟨rfl, ?_⟩
      all_goals repeat (first | exact Below.refl _ _ | apply bl_alloc | apply bl_drew | (refine bl_set ?_ (by simp <;> omega) _) | (refine bl_call ?_ (by assumption)))
end Go.Proofs.Ytbfgnpbkgegegaa
