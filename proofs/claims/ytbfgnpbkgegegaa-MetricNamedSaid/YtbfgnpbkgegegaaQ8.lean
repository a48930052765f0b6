import Derived.Test.YtbfgnpbkgegegaaQ7
import Derived.Test.YtbfgnpbkgegegaaQ5
import Derived.Test.YtbfgnpbkgegegaaV9
import Derived.Deep.RegionHeld3
import Derived.Deep.Cut
namespace Go.Proofs.Ytbfgnpbkgegegaa
open Go.RowKit
set_option linter.unusedSimpArgs false
set_option linter.unusedVariables false

def namedL : List (List Int × List Int) := [(timeB, timeF), (callsB, callsF), (stkB, stkF), (heapB, heapF), (garbageB, garbageF), (ticksB, ticksF), (freeB, freeF)]
theorem named_valid : ∀ k, k < 7 → validM (namedL.getD k ([], [])).1 (namedL.getD k ([], [])).2 = true := by
  intro k hk
  rcases (show k = 0 ∨ k = 1 ∨ k = 2 ∨ k = 3 ∨ k = 4 ∨ k = 5 ∨ k = 6 by omega) with rfl | rfl | rfl | rfl | rfl | rfl | rfl <;> decide
theorem rdmc_lit {w : World} {g : Nat} {t : TypeId} {cs : Array Value} {m : List Int × List Int} {b f : Value} {j : Nat} (h : w.heap[g]? = some (.cells cs t (0, 0))) (h1 : cs[j * 2]? = some b) (h2 : cs[j * 2 + 1]? = some f) (h3 : RdM w (.agg #[b, f]) m.1 m.2) : RdMc w ((⟨g, 0, none⟩ : Addr).add (j * 2)) m := by
  obtain ⟨b', f', e, h4, h5⟩ := h3
  injection e with e
  have e1 : b = b' := by have := congrArg (fun a => a[0]?) e; simpa using this
  have e2 : f = f' := by have := congrArg (fun a => a[1]?) e; simpa using this
  subst e1; subst e2
  refine ⟨b, f, ?_, ?_, h4, h5⟩
  · rw [add_at, Nat.zero_add, blk_cell h]; exact h1
  · rw [add_at, Nat.zero_add, blk_cell h]; exact h2

set_option maxRecDepth 100000 in
set_option maxHeartbeats 8000000 in
theorem named_walk (w : World) : Calls Try.prog 7 #[] w fun e w' => e = .returned (.bool true) ∧ Below w.heap.size w w' := by
  go_enter Try.func7, Try.ntmps7
  go_wp2_with fail
  refine (time_own _).mono ?_
  rintro e w1 ⟨r, rfl, ho, hb⟩
  have HM1 := Lib.hid (show RdM w1 r timeB timeF from ho.now)
  obtain ⟨g1, j1, c1, d1, rfl, x1, x2, x3, x4, x5⟩ := ho
  have HB := Lib.hid hb
  clear hb x1 x2 x3 x4 x5
  go_wp2_with fail
  refine (calls_own _).mono ?_
  rintro e w2 ⟨r, rfl, ho, hb⟩
  have HM2 := Lib.hid (show RdM w2 r callsB callsF from ho.now)
  obtain ⟨g2, j2, c2, d2, rfl, x1, x2, x3, x4, x5⟩ := ho
  replace HM1 := Lib.hid (HM1.out.below hb)
  replace HB := Lib.hid (bl_call HB.out hb)
  clear hb x1 x2 x3 x4 x5
  go_wp2_with fail
  refine (stk_own _).mono ?_
  rintro e w3 ⟨r, rfl, ho, hb⟩
  have HM3 := Lib.hid (show RdM w3 r stkB stkF from ho.now)
  obtain ⟨g3, j3, c3, d3, rfl, x1, x2, x3, x4, x5⟩ := ho
  replace HM1 := Lib.hid (HM1.out.below hb)
  replace HM2 := Lib.hid (HM2.out.below hb)
  replace HB := Lib.hid (bl_call HB.out hb)
  clear hb x1 x2 x3 x4 x5
  go_wp2_with fail
  refine (heap_own _).mono ?_
  rintro e w4 ⟨r, rfl, ho, hb⟩
  have HM4 := Lib.hid (show RdM w4 r heapB heapF from ho.now)
  obtain ⟨g4, j4, c4, d4, rfl, x1, x2, x3, x4, x5⟩ := ho
  replace HM1 := Lib.hid (HM1.out.below hb)
  replace HM2 := Lib.hid (HM2.out.below hb)
  replace HM3 := Lib.hid (HM3.out.below hb)
  replace HB := Lib.hid (bl_call HB.out hb)
  clear hb x1 x2 x3 x4 x5
  go_wp2_with fail
  refine (garbage_own _).mono ?_
  rintro e w5 ⟨r, rfl, ho, hb⟩
  have HM5 := Lib.hid (show RdM w5 r garbageB garbageF from ho.now)
  obtain ⟨g5, j5, c5, d5, rfl, x1, x2, x3, x4, x5⟩ := ho
  replace HM1 := Lib.hid (HM1.out.below hb)
  replace HM2 := Lib.hid (HM2.out.below hb)
  replace HM3 := Lib.hid (HM3.out.below hb)
  replace HM4 := Lib.hid (HM4.out.below hb)
  replace HB := Lib.hid (bl_call HB.out hb)
  clear hb x1 x2 x3 x4 x5
  go_wp2_with fail
  refine (ticks_own _).mono ?_
  rintro e w6 ⟨r, rfl, ho, hb⟩
  have HM6 := Lib.hid (show RdM w6 r ticksB ticksF from ho.now)
  obtain ⟨g6, j6, c6, d6, rfl, x1, x2, x3, x4, x5⟩ := ho
  replace HM1 := Lib.hid (HM1.out.below hb)
  replace HM2 := Lib.hid (HM2.out.below hb)
  replace HM3 := Lib.hid (HM3.out.below hb)
  replace HM4 := Lib.hid (HM4.out.below hb)
  replace HM5 := Lib.hid (HM5.out.below hb)
  replace HB := Lib.hid (bl_call HB.out hb)
  clear hb x1 x2 x3 x4 x5
  go_wp2_with fail
  refine (free_own _).mono ?_
  rintro e w7 ⟨r, rfl, ho, hb⟩
  have HM7 := Lib.hid (show RdM w7 r freeB freeF from ho.now)
  obtain ⟨g7, j7, c7, d7, rfl, x1, x2, x3, x4, x5⟩ := ho
  replace HM1 := Lib.hid (HM1.out.below hb)
  replace HM2 := Lib.hid (HM2.out.below hb)
  replace HM3 := Lib.hid (HM3.out.below hb)
  replace HM4 := Lib.hid (HM4.out.below hb)
  replace HM5 := Lib.hid (HM5.out.below hb)
  replace HM6 := Lib.hid (HM6.out.below hb)
  replace HB := Lib.hid (bl_call HB.out hb)
  clear hb x1 x2 x3 x4 x5
  go_upto_region 2 with (fail)
  obtain ⟨W7, hW7⟩ : ∃ W, W = w7.alloc (.cells #[.slice (some ⟨g1, 0, none⟩) 26 c1, .slice (some ⟨j1, 0, none⟩) 26 d1, .slice (some ⟨g2, 0, none⟩) 26 c2, .slice (some ⟨j2, 0, none⟩) 26 d2, .slice (some ⟨g3, 0, none⟩) 26 c3, .slice (some ⟨j3, 0, none⟩) 26 d3, .slice (some ⟨g4, 0, none⟩) 26 c4, .slice (some ⟨j4, 0, none⟩) 26 d4, .slice (some ⟨g5, 0, none⟩) 26 c5, .slice (some ⟨j5, 0, none⟩) 26 d5, .slice (some ⟨g6, 0, none⟩) 26 c6, .slice (some ⟨j6, 0, none⟩) 26 d6, .slice (some ⟨g7, 0, none⟩) 26 c7, .slice (some ⟨j7, 0, none⟩) 26 d7] 28) := ⟨_, rfl⟩
  have HG := Lib.hid (show W7.heap[w7.heap.size]? = some (.cells #[.slice (some ⟨g1, 0, none⟩) 26 c1, .slice (some ⟨j1, 0, none⟩) 26 d1, .slice (some ⟨g2, 0, none⟩) 26 c2, .slice (some ⟨j2, 0, none⟩) 26 d2, .slice (some ⟨g3, 0, none⟩) 26 c3, .slice (some ⟨j3, 0, none⟩) 26 d3, .slice (some ⟨g4, 0, none⟩) 26 c4, .slice (some ⟨j4, 0, none⟩) 26 d4, .slice (some ⟨g5, 0, none⟩) 26 c5, .slice (some ⟨j5, 0, none⟩) 26 d5, .slice (some ⟨g6, 0, none⟩) 26 c6, .slice (some ⟨j6, 0, none⟩) 26 d6, .slice (some ⟨g7, 0, none⟩) 26 c7, .slice (some ⟨j7, 0, none⟩) 26 d7] 28 (0, 0)) by rw [hW7]; exact blk_new _ _)
  have hb : Below w7.heap.size w7 W7 := by rw [hW7]; exact bl_alloc (Below.refl _ _) _
  rw [← hW7]
  replace HM1 := Lib.hid (HM1.out.below hb)
  replace HM2 := Lib.hid (HM2.out.below hb)
  replace HM3 := Lib.hid (HM3.out.below hb)
  replace HM4 := Lib.hid (HM4.out.below hb)
  replace HM5 := Lib.hid (HM5.out.below hb)
  replace HM6 := Lib.hid (HM6.out.below hb)
  replace HM7 := Lib.hid (HM7.out.below hb)
  replace HB := Lib.hid (bl_call HB.out hb)
  clear hb hW7
  go_wp2_with fail
  refine (rtime_own _).mono ?_
  rintro e w8 ⟨r, rfl, ho, hb⟩
  have HM8 := Lib.hid (show RdM w8 r timeB timeF from ho.now)
  obtain ⟨g8, j8, c8, d8, rfl, x1, x2, x3, x4, x5⟩ := ho
  replace HM1 := Lib.hid (HM1.out.below hb)
  replace HM2 := Lib.hid (HM2.out.below hb)
  replace HM3 := Lib.hid (HM3.out.below hb)
  replace HM4 := Lib.hid (HM4.out.below hb)
  replace HM5 := Lib.hid (HM5.out.below hb)
  replace HM6 := Lib.hid (HM6.out.below hb)
  replace HM7 := Lib.hid (HM7.out.below hb)
  replace HG := Lib.hid (blk_below HG.out hb)
  replace HB := Lib.hid (bl_call HB.out hb)
  clear hb x1 x2 x3 x4 x5
  go_wp2_with fail
  refine (rcalls_own _).mono ?_
  rintro e w9 ⟨r, rfl, ho, hb⟩
  have HM9 := Lib.hid (show RdM w9 r callsB callsF from ho.now)
  obtain ⟨g9, j9, c9, d9, rfl, x1, x2, x3, x4, x5⟩ := ho
  replace HM1 := Lib.hid (HM1.out.below hb)
  replace HM2 := Lib.hid (HM2.out.below hb)
  replace HM3 := Lib.hid (HM3.out.below hb)
  replace HM4 := Lib.hid (HM4.out.below hb)
  replace HM5 := Lib.hid (HM5.out.below hb)
  replace HM6 := Lib.hid (HM6.out.below hb)
  replace HM7 := Lib.hid (HM7.out.below hb)
  replace HM8 := Lib.hid (HM8.out.below hb)
  replace HG := Lib.hid (blk_below HG.out hb)
  replace HB := Lib.hid (bl_call HB.out hb)
  clear hb x1 x2 x3 x4 x5
  go_wp2_with fail
  refine (rstack_own _).mono ?_
  rintro e w10 ⟨r, rfl, ho, hb⟩
  have HM10 := Lib.hid (show RdM w10 r stkB stkF from ho.now)
  obtain ⟨g10, j10, c10, d10, rfl, x1, x2, x3, x4, x5⟩ := ho
  replace HM1 := Lib.hid (HM1.out.below hb)
  replace HM2 := Lib.hid (HM2.out.below hb)
  replace HM3 := Lib.hid (HM3.out.below hb)
  replace HM4 := Lib.hid (HM4.out.below hb)
  replace HM5 := Lib.hid (HM5.out.below hb)
  replace HM6 := Lib.hid (HM6.out.below hb)
  replace HM7 := Lib.hid (HM7.out.below hb)
  replace HM8 := Lib.hid (HM8.out.below hb)
  replace HM9 := Lib.hid (HM9.out.below hb)
  replace HG := Lib.hid (blk_below HG.out hb)
  replace HB := Lib.hid (bl_call HB.out hb)
  clear hb x1 x2 x3 x4 x5
  go_wp2_with fail
  refine (rheap_own _).mono ?_
  rintro e w11 ⟨r, rfl, ho, hb⟩
  have HM11 := Lib.hid (show RdM w11 r heapB heapF from ho.now)
  obtain ⟨g11, j11, c11, d11, rfl, x1, x2, x3, x4, x5⟩ := ho
  replace HM1 := Lib.hid (HM1.out.below hb)
  replace HM2 := Lib.hid (HM2.out.below hb)
  replace HM3 := Lib.hid (HM3.out.below hb)
  replace HM4 := Lib.hid (HM4.out.below hb)
  replace HM5 := Lib.hid (HM5.out.below hb)
  replace HM6 := Lib.hid (HM6.out.below hb)
  replace HM7 := Lib.hid (HM7.out.below hb)
  replace HM8 := Lib.hid (HM8.out.below hb)
  replace HM9 := Lib.hid (HM9.out.below hb)
  replace HM10 := Lib.hid (HM10.out.below hb)
  replace HG := Lib.hid (blk_below HG.out hb)
  replace HB := Lib.hid (bl_call HB.out hb)
  clear hb x1 x2 x3 x4 x5
  go_wp2_with fail
  refine (rgarbage_own _).mono ?_
  rintro e w12 ⟨r, rfl, ho, hb⟩
  have HM12 := Lib.hid (show RdM w12 r garbageB garbageF from ho.now)
  obtain ⟨g12, j12, c12, d12, rfl, x1, x2, x3, x4, x5⟩ := ho
  replace HM1 := Lib.hid (HM1.out.below hb)
  replace HM2 := Lib.hid (HM2.out.below hb)
  replace HM3 := Lib.hid (HM3.out.below hb)
  replace HM4 := Lib.hid (HM4.out.below hb)
  replace HM5 := Lib.hid (HM5.out.below hb)
  replace HM6 := Lib.hid (HM6.out.below hb)
  replace HM7 := Lib.hid (HM7.out.below hb)
  replace HM8 := Lib.hid (HM8.out.below hb)
  replace HM9 := Lib.hid (HM9.out.below hb)
  replace HM10 := Lib.hid (HM10.out.below hb)
  replace HM11 := Lib.hid (HM11.out.below hb)
  replace HG := Lib.hid (blk_below HG.out hb)
  replace HB := Lib.hid (bl_call HB.out hb)
  clear hb x1 x2 x3 x4 x5
  go_wp2_with fail
  refine (rticks_own _).mono ?_
  rintro e w13 ⟨r, rfl, ho, hb⟩
  have HM13 := Lib.hid (show RdM w13 r ticksB ticksF from ho.now)
  obtain ⟨g13, j13, c13, d13, rfl, x1, x2, x3, x4, x5⟩ := ho
  replace HM1 := Lib.hid (HM1.out.below hb)
  replace HM2 := Lib.hid (HM2.out.below hb)
  replace HM3 := Lib.hid (HM3.out.below hb)
  replace HM4 := Lib.hid (HM4.out.below hb)
  replace HM5 := Lib.hid (HM5.out.below hb)
  replace HM6 := Lib.hid (HM6.out.below hb)
  replace HM7 := Lib.hid (HM7.out.below hb)
  replace HM8 := Lib.hid (HM8.out.below hb)
  replace HM9 := Lib.hid (HM9.out.below hb)
  replace HM10 := Lib.hid (HM10.out.below hb)
  replace HM11 := Lib.hid (HM11.out.below hb)
  replace HM12 := Lib.hid (HM12.out.below hb)
  replace HG := Lib.hid (blk_below HG.out hb)
  replace HB := Lib.hid (bl_call HB.out hb)
  clear hb x1 x2 x3 x4 x5
  go_wp2_with fail
  refine (rfree_own _).mono ?_
  rintro e w14 ⟨r, rfl, ho, hb⟩
  have HM14 := Lib.hid (show RdM w14 r freeB freeF from ho.now)
  obtain ⟨g14, j14, c14, d14, rfl, x1, x2, x3, x4, x5⟩ := ho
  replace HM1 := Lib.hid (HM1.out.below hb)
  replace HM2 := Lib.hid (HM2.out.below hb)
  replace HM3 := Lib.hid (HM3.out.below hb)
  replace HM4 := Lib.hid (HM4.out.below hb)
  replace HM5 := Lib.hid (HM5.out.below hb)
  replace HM6 := Lib.hid (HM6.out.below hb)
  replace HM7 := Lib.hid (HM7.out.below hb)
  replace HM8 := Lib.hid (HM8.out.below hb)
  replace HM9 := Lib.hid (HM9.out.below hb)
  replace HM10 := Lib.hid (HM10.out.below hb)
  replace HM11 := Lib.hid (HM11.out.below hb)
  replace HM12 := Lib.hid (HM12.out.below hb)
  replace HM13 := Lib.hid (HM13.out.below hb)
  replace HG := Lib.hid (blk_below HG.out hb)
  replace HB := Lib.hid (bl_call HB.out hb)
  clear hb x1 x2 x3 x4 x5
  go_upto_region 3 with (fail)
  obtain ⟨W, hW⟩ : ∃ W, W = w14.alloc (.cells #[.slice (some ⟨g8, 0, none⟩) 26 c8, .slice (some ⟨j8, 0, none⟩) 26 d8, .slice (some ⟨g9, 0, none⟩) 26 c9, .slice (some ⟨j9, 0, none⟩) 26 d9, .slice (some ⟨g10, 0, none⟩) 26 c10, .slice (some ⟨j10, 0, none⟩) 26 d10, .slice (some ⟨g11, 0, none⟩) 26 c11, .slice (some ⟨j11, 0, none⟩) 26 d11, .slice (some ⟨g12, 0, none⟩) 26 c12, .slice (some ⟨j12, 0, none⟩) 26 d12, .slice (some ⟨g13, 0, none⟩) 26 c13, .slice (some ⟨j13, 0, none⟩) 26 d13, .slice (some ⟨g14, 0, none⟩) 26 c14, .slice (some ⟨j14, 0, none⟩) 26 d14] 28) := ⟨_, rfl⟩
  have HW := Lib.hid (show W.heap[w14.heap.size]? = some (.cells #[.slice (some ⟨g8, 0, none⟩) 26 c8, .slice (some ⟨j8, 0, none⟩) 26 d8, .slice (some ⟨g9, 0, none⟩) 26 c9, .slice (some ⟨j9, 0, none⟩) 26 d9, .slice (some ⟨g10, 0, none⟩) 26 c10, .slice (some ⟨j10, 0, none⟩) 26 d10, .slice (some ⟨g11, 0, none⟩) 26 c11, .slice (some ⟨j11, 0, none⟩) 26 d11, .slice (some ⟨g12, 0, none⟩) 26 c12, .slice (some ⟨j12, 0, none⟩) 26 d12, .slice (some ⟨g13, 0, none⟩) 26 c13, .slice (some ⟨j13, 0, none⟩) 26 d13, .slice (some ⟨g14, 0, none⟩) 26 c14, .slice (some ⟨j14, 0, none⟩) 26 d14] 28 (0, 0)) by rw [hW]; exact blk_new _ _)
  have hb : Below w14.heap.size w14 W := by rw [hW]; exact bl_alloc (Below.refl _ _) _
  rw [← hW]
  replace HM1 := Lib.hid (HM1.out.below hb)
  replace HM2 := Lib.hid (HM2.out.below hb)
  replace HM3 := Lib.hid (HM3.out.below hb)
  replace HM4 := Lib.hid (HM4.out.below hb)
  replace HM5 := Lib.hid (HM5.out.below hb)
  replace HM6 := Lib.hid (HM6.out.below hb)
  replace HM7 := Lib.hid (HM7.out.below hb)
  replace HM8 := Lib.hid (HM8.out.below hb)
  replace HM9 := Lib.hid (HM9.out.below hb)
  replace HM10 := Lib.hid (HM10.out.below hb)
  replace HM11 := Lib.hid (HM11.out.below hb)
  replace HM12 := Lib.hid (HM12.out.below hb)
  replace HM13 := Lib.hid (HM13.out.below hb)
  replace HM14 := Lib.hid (HM14.out.below hb)
  replace HG := Lib.hid (blk_below HG.out hb)
  replace HB := Lib.hid (bl_call HB.out hb)
  clear hb hW
  obtain ⟨ga, hga⟩ : ∃ a : Addr, a = ⟨w7.heap.size, 0, none⟩ := ⟨_, rfl⟩
  obtain ⟨wa, hwa⟩ : ∃ a : Addr, a = ⟨w14.heap.size, 0, none⟩ := ⟨_, rfl⟩
  have RG := Lib.hid (show ∀ k, k < 7 → RdMc W (ga.add (k * 2)) (namedL.getD k ([], [])) from by
    intro k hk
    rw [hga]
    rcases (show k = 0 ∨ k = 1 ∨ k = 2 ∨ k = 3 ∨ k = 4 ∨ k = 5 ∨ k = 6 by omega) with rfl | rfl | rfl | rfl | rfl | rfl | rfl
    · exact rdmc_lit HG.out rfl rfl HM1.out
    · exact rdmc_lit HG.out rfl rfl HM2.out
    · exact rdmc_lit HG.out rfl rfl HM3.out
    · exact rdmc_lit HG.out rfl rfl HM4.out
    · exact rdmc_lit HG.out rfl rfl HM5.out
    · exact rdmc_lit HG.out rfl rfl HM6.out
    · exact rdmc_lit HG.out rfl rfl HM7.out)
  have RW := Lib.hid (show ∀ k, k < 7 → RdMc W (wa.add (k * 2)) (namedL.getD k ([], [])) from by
    intro k hk
    rw [hwa]
    rcases (show k = 0 ∨ k = 1 ∨ k = 2 ∨ k = 3 ∨ k = 4 ∨ k = 5 ∨ k = 6 by omega) with rfl | rfl | rfl | rfl | rfl | rfl | rfl
    · exact rdmc_lit HW.out rfl rfl HM8.out
    · exact rdmc_lit HW.out rfl rfl HM9.out
    · exact rdmc_lit HW.out rfl rfl HM10.out
    · exact rdmc_lit HW.out rfl rfl HM11.out
    · exact rdmc_lit HW.out rfl rfl HM12.out
    · exact rdmc_lit HW.out rfl rfl HM13.out
    · exact rdmc_lit HW.out rfl rfl HM14.out)
  rw [← hga, ← hwa]
  clear hga hwa HG HW HM1 HM2 HM3 HM4 HM5 HM6 HM7 HM8 HM9 HM10 HM11 HM12 HM13 HM14
  go_wp2
  go_loopw [3, 22] (fun _ i wr => ∃ k : Nat, k ≤ 7 ∧ i = .int .i64 k ∧ Below W.heap.size W wr) (fun _ i _ => 7 - (intOf i).toNat)
  case atStart => exact ⟨0, Nat.zero_le _, rfl, Below.refl _ _⟩
  case round =>
    obtain ⟨k, hk, rfl, hb⟩ := hrel
    by_cases hlt : k < 7
    · obtain ⟨b, f, q1, q2, r1, r2⟩ := (RG.out k hlt).below hb
      obtain ⟨b', f', p1, p2, s1, s2⟩ := (RW.out k hlt).below hb
      have hv := named_valid k hlt
      obtain ⟨m, hm⟩ : ∃ m, m = namedL.getD k ([], []) := ⟨_, rfl⟩
      rw [← hm] at r1 r2 s1 s2 hv
      obtain ⟨bs, fs⟩ := m
      simp only at r1 r2 s1 s2 hv
      have R := Lib.hid (show ∀ W2, Below wr.heap.size wr W2 → RdM W2 (.agg #[b, f]) bs fs from fun W2 h => ⟨_, _, rfl, r1.below h, r2.below h⟩)
      have S := Lib.hid (show ∀ W2, Below wr.heap.size wr W2 → RdM W2 (.agg #[b', f']) bs fs from fun W2 h => ⟨_, _, rfl, s1.below h, s2.below h⟩)
      have HV := Lib.hid hv
      have HB' := Lib.hid hb
      obtain ⟨A1, c1', rfl, l1, x1⟩ := r1
      obtain ⟨A2, c2', rfl, l2, x2⟩ := r2
      obtain ⟨A3, c3', rfl, l3, x3⟩ := s1
      obtain ⟨A4, c4', rfl, l4, x4⟩ := s2
      have HK := Lib.hid (show ∀ w', Below wr.heap.size wr w' → (w'.cell? (ga.add (k * 2)) = some (.slice A1 bs.length c1') ∧ w'.cell? ⟨(ga.add (k * 2)).block, (ga.add (k * 2)).off + 1, none⟩ = some (.slice A2 fs.length c2') ∧ w'.cell? (wa.add (k * 2)) = some (.slice A3 bs.length c3') ∧ w'.cell? ⟨(wa.add (k * 2)).block, (wa.add (k * 2)).off + 1, none⟩ = some (.slice A4 fs.length c4')) from fun w' h =>
        ⟨(h.cell (World.block_lt_of_cell? wr _ q1)).trans q1, (h.cell (World.block_lt_of_cell? wr _ q2)).trans q2, (h.cell (World.block_lt_of_cell? wr _ p1)).trans p1, (h.cell (World.block_lt_of_cell? wr _ p2)).trans p2⟩)
      clear x1 x2 x3 x4 hm hv hb l1 l2 l3 l4
      go_upto_region 6 with (fail)
      go_region_held3 (fun w' => w'.cell? (ga.add (k * 2)) = some (.slice A1 bs.length c1') ∧ w'.cell? ⟨(ga.add (k * 2)).block, (ga.add (k * 2)).off + 1, none⟩ = some (.slice A2 fs.length c2') ∧ w'.cell? (wa.add (k * 2)) = some (.slice A3 bs.length c3') ∧ w'.cell? ⟨(wa.add (k * 2)).block, (wa.add (k * 2)).off + 1, none⟩ = some (.slice A4 fs.length c4'))
        (first
          | (refine HK.out _ ?_; repeat (first | (with_reducible exact Below.refl _ _) | (with_reducible refine bl_drew ?_) | (refine bl_call ?_ (by assumption))))
          | go_keep)
        (first
          | (go_at_call 36; refine (same_yes _ _ bs fs _ (R.out _ ?_) (S.out _ ?_)).mono ?_; (repeat (first | (with_reducible exact Below.refl _ _) | (with_reducible refine bl_drew ?_))); (repeat (first | (with_reducible exact Below.refl _ _) | (with_reducible refine bl_drew ?_))); rintro e v1 ⟨rfl, hv1⟩)
          | (go_at_call 15; refine (valid_any _ bs fs _ (R.out _ ?_)).mono ?_; (repeat (first | (with_reducible exact Below.refl _ _) | (with_reducible refine bl_drew ?_) | (refine bl_call ?_ (by assumption)))); rw [HV.out]; rintro e v2 ⟨rfl, hv2⟩))
      go_wp2
      go_roundw
      case measure => simp [intOf]; omega
      case rel => exact ⟨k + 1, by omega, by go_num, by repeat (first | exact HB'.out | apply bl_drew | (refine bl_call ?_ (by assumption)))⟩
    · have HB' := Lib.hid (bl_call HB.out hb)
      clear hb
      go_wp2_with fail
      refine (awake_any _).mono ?_
      rintro e v9 ⟨rfl, hv9⟩
      go_wp2_with fail
      go_ret
      exact ⟨rfl, bl_call HB'.out hv9⟩
end Go.Proofs.Ytbfgnpbkgegegaa
