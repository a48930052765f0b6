/- The walk of the statement RationalCarries. -/
import Derived.Test.YtikpdkgamcecjaaC2
import Derived.Deep.RegionHeld3
namespace Go.Proofs.Ytikpdkgamcecjaa
open Go.ChangeShapes Go.WideShapes Go.ChangeAt Go.RowKit Go.Joins
set_option linter.unusedSimpArgs false
set_option linter.unusedVariables false

/-- A slice of limbs in memory. -/
def RdL (w : World) (v : Value) (xs : List Int) : Prop := Rd .u32 w v xs ∧ U32 xs
theorem open_limbs {H : Type} {enc : TypeId × Value → H} {w : World} {base b0 : Nat} {held : Bool} {r : Reach} {v : Value} {d : DataW H} {p : List MemPlace}
    (hv : Value.okWide Try.prog w r b0 22 v) (h : DataW.Trod enc Try.prog w base (fun _ => true) held 22 v d p) : ∃ xs : List Int, RdL w v xs := by
  obtain ⟨a, l, c, rfl⟩ := okWide_slice Try.underlying22 hv
  obtain ⟨fuel, hf⟩ := h
  obtain ⟨xs, hx, wx⟩ := open_rd Try.underlying22 Try.underlying43 (by kernel_rfl) hf
  exact ⟨xs, hx, u32_wf wx⟩
theorem carry_val {xs : List Int} {k : Nat} (hk : k < xs.length) : val (((xs ++ [0]).set k ((xs ++ [0]).getD k 0 + 1000000000)).set (k + 1) ((xs ++ [0]).getD (k + 1) 0 - 1)) = val xs := by
  have hv : val (xs ++ [0]) = val xs := by rw [val_snoc]; simp
  obtain ⟨ys, hys⟩ : ∃ ys, ys = xs ++ [0] := ⟨_, rfl⟩
  have hl : k + 1 < ys.length := by rw [hys]; simp; omega
  rw [← hys] at hv ⊢
  rw [← hv, ← vs_val, ← vs_val]
  have e1 : ((ys.set k (ys.getD k 0 + 1000000000)).set (k + 1) (ys.getD (k + 1) 0 - 1)).length = ys.length := by simp
  rw [e1, vs_set_gt _ (k + 1) _ (by simpa using hl) _ (by omega), vs_set_gt _ k _ (by omega) _ (by omega), getD_set_ne (by omega)]
  have e2 : (1000000000 : Int) ^ (k + 1) = 1000000000 * 1000000000 ^ k := by rw [Int.pow_succ, Int.mul_comm]
  rw [e2]
  obtain ⟨P, hP⟩ : ∃ P, P = (1000000000 : Int) ^ k := ⟨_, rfl⟩
  rw [← hP]
  have e3 : ys.getD k 0 + 1000000000 - ys.getD k 0 = 1000000000 := by omega
  have e4 : ys.getD (k + 1) 0 - 1 - ys.getD (k + 1) 0 = -1 := by omega
  rw [e3, e4]
  omega
theorem u32_set {xs : List Int} {k : Nat} {t : Int} (h : U32 xs) (h0 : 0 ≤ t) (h1 : t < 4294967296) : U32 (xs.set k t) := by
  intro j hj
  simp at hj
  by_cases e : j = k
  · subst e; rw [getD_set_self hj]; exact ⟨h0, h1⟩
  · rw [getD_set_ne e]; exact h j hj
theorem u32_snoc {xs : List Int} (h : U32 xs) : U32 (xs ++ [0]) := by
  intro j hj
  rw [getD_snoc]
  split
  · rename_i hl; exact h j hl
  · split <;> omega
theorem u32_one : U32 [1] := fun j hj => by
  have : j = 0 := by simp at hj; exact hj
  subst this; simp
theorem num_lit {W : World} {v u : Value} {xs : List Int} (h : Rd .u32 W v xs) (h1 : Rd .u32 W u [1]) (hu : U32 xs) {L : Nat} (hl : xs.length ≤ L) (hL : 1 ≤ L) : Num false L W (.agg #[.bool false, v, u]) (qv ⟨false, xs, [1]⟩) :=
  ⟨⟨false, xs, [1]⟩, ⟨v, u, rfl, h.foot, h1.foot⟩, ⟨hu, u32_one, hl, by simpa using hL⟩, rfl, fun h => by cases h⟩
/-- The block of an own row of limbs. -/
theorem row_block {w : World} {base n : Nat} {e : TypeId} {v : Value} {ys : List Int} (h : w.ownsRow base e 1 v n (ys.map (Value.int .u32))) (hn : 0 < n) :
    ∃ (g cap : Nat) (cur : Array Value), v = .slice (some ⟨g, 0, none⟩) n cap ∧ w.heap[g]? = some (.cells cur e (0, 0)) ∧ base ≤ g ∧ n ≤ cap ∧ ∀ j, j < ys.length → cur[j]? = some (.int .u32 (ys.getD j 0)) := by
  rcases h.2 with ⟨rfl, h0⟩ | ⟨g, cap, cur, rfl, hg, hh, h1, h2, h3, h4⟩
  · omega
  · refine ⟨g, cap, cur, rfl, hh, hg, h1, fun j hj => ?_⟩
    have := h.cells (g := g) rfl j (.int .u32 (ys.getD j 0)) (by rw [List.getElem?_map, List.getElem?_eq_getElem hj, List.getD_eq_getElem?_getD, List.getElem?_eq_getElem hj]; rfl)
    rw [add_at, blk_cell hh] at this
    simpa using this
set_option maxRecDepth 100000 in
set_option maxHeartbeats 8000000 in
theorem carries_walk (v : Value) (xs : List Int) (at_ : Int) (w : World) (h : RdL w v xs) (hat : (Lit.int .i64 at_).wf = true) :
    Calls Try.prog 9 #[v, .int .i64 at_] w fun e w' => e = .returned (.bool true) ∧ Below w.heap.size w w' := by
  obtain ⟨i0, hi0, hz0, hz1, hz2⟩ := info_parts info_u32
  obtain ⟨hr, hu⟩ := h
  have HR := Lib.hid hr
  have HU := Lib.hid hu
  obtain ⟨A, c, rfl, ⟨hl1, hl2⟩, _⟩ := hr
  clear hu
  by_cases h8 : 8 < xs.length
  · go_enter Try.func9, Try.ntmps9
    go_wp2
    all_goals first
      | (exfalso; omega)
      | (go_ret; exact ⟨rfl, Below.refl _ _⟩)
  by_cases h0 : at_ < 0
  · go_enter Try.func9, Try.ntmps9
    go_wp2
    all_goals first
      | (exfalso; omega)
      | (go_ret; exact ⟨rfl, Below.refl _ _⟩)
  obtain ⟨k, rfl⟩ : ∃ k : Nat, at_ = k := ⟨at_.toNat, by omega⟩
  by_cases hk : xs.length ≤ k
  · go_enter Try.func9, Try.ntmps9
    go_wp2
    all_goals first
      | (exfalso; omega)
      | (go_ret; exact ⟨rfl, Below.refl _ _⟩)
  have hk' : k < xs.length := by omega
  obtain ⟨ad, rfl, _, hc⟩ := HR.out.at_ hk'
  obtain ⟨hx0, hx1⟩ := HU.out k hk'
  obtain ⟨x, hx⟩ : ∃ x, x = xs.getD k 0 := ⟨_, rfl⟩
  rw [← hx] at hc hx0 hx1
  by_cases hbig : 3294967295 < x
  · clear hx
    go_enter Try.func9, Try.ntmps9
    go_wp2
    all_goals first
      | (exfalso; omega)
      | (go_ret; exact ⟨rfl, Below.refl _ _⟩)
  have HX := Lib.hid hx
  have hxl : xs.length ≤ 8 := by omega
  clear hx h8 h0 hk
  go_enter Try.func9, Try.ntmps9
  go_wp2_with (first
    | (at_builtin
       refine wpList_append_any _ rfl (.const (.slice none 0 0)) (.tmp 27) _ rfl w.heap.size 43 i0 _ 1 4 Try.underlying22 hi0 hz0 hz1 hz2 rfl (by omega) _ 0 [] rfl
         (own_nilu _ _) w.heap.size (some ad) xs.length c (xs.map (Value.int .u32)) rfl HR.out.reads.2 (one_ints _ _) (by simp only [maxLen]; omega) (by omega) (by simp) ?_
       intro v1 w1 hown1 hg1 hat1
       have HO1 := Lib.hid (show w1.ownsRow w.heap.size 43 1 v1 xs.length (xs.map (Value.int .u32)) by simpa using hown1)
       have HB1 := Lib.hid (show Below w.heap.size w w1 from (Below.refl _ _).grown hg1 (by simp) (fun g hg => by cases hg))
       have hsz1 := HB1.out.size
       clear hown1 hg1 hat1)
    | (at_builtin
       refine wpList_append_any _ rfl (.tmp 28) (.tmp 29) _ rfl w.heap.size 43 i0 _ 1 4 Try.underlying22 hi0 hz0 hz1 hz2 rfl (by omega) _ xs.length _ rfl
         (HO1.out.alloc _) (w1.heap.size + 1) (some ⟨w1.heap.size, 0, none⟩) 1 1 _ rfl one_read (by intro u hu; simp at hu; subst hu; rfl) (by simp only [maxLen]; omega) (by omega) (by simp; omega) ?_
       intro v2 w2 hown2 hg2 hat2
       have HO2 := Lib.hid (show w2.ownsRow w.heap.size 43 1 v2 (xs.length + 1) ((xs ++ [0]).map (Value.int .u32)) by simpa using hown2)
       have HB2 := Lib.hid (show Below w.heap.size w w2 from (bl_alloc HB1.out _).grown hg2 (by simp; omega) (fun g hg => (HO1.out.lt g hg).1))
       obtain ⟨g, cap, cur, rfl, hm2, hm3, hm4, hm5⟩ := row_block HO2.out (by omega)
       have HM := Lib.hid hm2
       have HM5 := Lib.hid hm5
       have hgl := blk_lt hm2
       have hsz2 := HB2.out.size
       have HLT := Lib.hid hm3
       obtain ⟨y0, hy0⟩ : ∃ y, y = (xs ++ [0]).getD (k + 1) 0 := ⟨_, rfl⟩
       have m0 : w2.cell? ⟨g, k, none⟩ = some (.int .u32 x) := by
         rw [blk_cell hm2, hm5 k (by simp; omega), HX.out, getD_snoc, if_pos hk']
       have m1 : w2.cell? ⟨g, k + 1, none⟩ = some (.int .u32 y0) := by
         rw [blk_cell hm2, hm5 (k + 1) (by simp; omega), hy0]
       have mf := blk_frozen hm2
       have HY := Lib.hid hy0
       have hy := u32_snoc HU.out (k + 1) (by simp; omega)
       rw [← hy0] at hy
       obtain ⟨hy1, hy2⟩ := hy
       clear hown2 hg2 hat2 hm2 hm5 hy0))
  · go_ret
    exact ⟨rfl, HB2.out⟩
  · have hyn : y0 ≠ 0 := fun e => by
      have h7 : (y0 == 0) = true := by rw [e]; rfl
      first
        | (have h8 : (y0 == 0) = false := by assumption
           rw [h7] at h8; cases h8)
        | (have h8 : ¬ (y0 == 0) = true := by assumption
           exact h8 h7)
        | (have h8 : ¬ y0 = 0 := by assumption
           exact h8 e)
    have hy3 : (y0 - 1) % 4294967296 = y0 - 1 := by omega
    have hy0n : 0 ≤ y0 - 1 := by omega
    rw [hy3]
    obtain ⟨zs, hzs⟩ : ∃ zs, zs = ((xs ++ [0]).set k (x + 1000000000)).set (k + 1) (y0 - 1) := ⟨_, rfl⟩
    have HV := Lib.hid (show val zs = val xs by rw [hzs, HX.out, HY.out]; have := carry_val hk'; rwa [getD_snoc (j := k), if_pos hk'] at this)
    have HUZ := Lib.hid (show U32 zs by rw [hzs]; exact u32_set (u32_set (u32_snoc HU.out) (by omega) (by omega)) hy0n (by omega))
    have hzl : zs.length = xs.length + 1 := by rw [hzs]; simp
    obtain ⟨W, hW⟩ : ∃ W, W = ((w2.setCell ⟨g, k, none⟩ (.int .u32 (x + 1000000000))).setCell ⟨g, k + 1, none⟩ (.int .u32 (y0 - 1))).alloc (.cells #[.int .u32 1] 43) := ⟨_, rfl⟩
    have HBW := Lib.hid (show Below w.heap.size w W by rw [hW]; exact bl_alloc (bl_set (bl_set HB2.out HLT.out _) HLT.out _) _)
    have hblk : W.heap[g]? = some (.cells ((cur.setIfInBounds k (.int .u32 (x + 1000000000))).setIfInBounds (k + 1) (.int .u32 (y0 - 1))) 43 (0, 0)) := by rw [hW]; exact blk_alloc (blk_set (blk_set HM.out _ _) _ _) _
    have R1 := Lib.hid (HR.out.below HBW.out)
    have R2 := Lib.hid (show Rd .u32 W (.slice (some ⟨g, 0, none⟩) (xs.length + 1) cap) zs from rd_blk hblk hzl.symm (by omega) (by omega) (fun j hj => by
      have hs1 : k < cur.size := by
        have := HM5.out k (by simp; omega)
        exact (Array.getElem?_eq_some_iff.1 this).1
      have hs2 : k + 1 < cur.size := by
        have := HM5.out (k + 1) (by simp; omega)
        exact (Array.getElem?_eq_some_iff.1 this).1
      rw [hzs]
      by_cases e1 : j = k + 1
      · subst e1
        rw [getD_set_self (by simp; omega), Array.getElem?_setIfInBounds_self_of_lt (by simp; omega)]
      · rw [getD_set_ne e1, Array.getElem?_setIfInBounds_ne (by omega)]
        by_cases e2 : j = k
        · subst e2
          rw [getD_set_self (by simp; omega), Array.getElem?_setIfInBounds_self_of_lt (by omega)]
        · rw [getD_set_ne e2, Array.getElem?_setIfInBounds_ne (by omega)]
          exact HM5.out j (by simp; omega)))
    have RO := Lib.hid (show Rd .u32 W (.slice (some ⟨w2.heap.size, 0, none⟩) 1 1) [1] from (rdf_one (t := 43) (ok := fun _ => True) (by rw [hW]; exact blk_new' (by simp) _) trivial).now)
    have N1 := Lib.hid (num_lit R1.out RO.out HU.out (L := 9) (by omega) (by omega))
    have N2 := Lib.hid (num_lit R2.out RO.out HUZ.out (L := 9) (by omega) (by omega))
    have HQ : qv ⟨false, zs, [1]⟩ = qv ⟨false, xs, [1]⟩ := by unfold qv; simp only; rw [HV.out]
    rw [HQ] at N2
    obtain ⟨Q, hQ⟩ : ∃ Q, Q = qv ⟨false, xs, [1]⟩ := ⟨_, rfl⟩
    rw [← hQ] at N1 N2
    have HS := Lib.hid (show sgnZ (Q - Q) = 0 from sgnZ_zero.2 Rat.sub_self)
    rw [← hW]
    clear hW hQ HQ hblk hzs hzl m0 m1 mf hc
    refine (cmp_n N1.out N2.out (Nat.le_of_ble_eq_true rfl) (Nat.le_of_ble_eq_true rfl)).mono ?_
    rw [HS.out]
    rintro e w5 ⟨rfl, hb5⟩
    have K5 := Lib.hid hb5
    clear hb5
    go_wp2_with fail
    refine (canon_n (N1.out.below K5.out) (Nat.le_of_ble_eq_true rfl)).mono ?_
    rintro e w6 ⟨z6, rfl, hz6, hb6⟩
    have K6 := Lib.hid (bl_call K5.out hb6)
    have H6 := Lib.hid hz6
    clear hb6 hz6
    go_wp2_with fail
    refine (canon_n (N2.out.below K6.out) (Nat.le_of_ble_eq_true rfl)).mono ?_
    rintro e w7 ⟨z7, rfl, hz7, hb7⟩
    have K7 := Lib.hid (bl_call K6.out hb7)
    have H7 := Lib.hid hz7
    have H67 := Lib.hid (H6.out.below hb7)
    clear hb7 hz7
    go_wp2_with fail
    refine (same_n H67.out H7.out rfl).mono ?_
    rintro e w8 ⟨rfl, hb8⟩
    have K8 := Lib.hid (bl_call K7.out hb8)
    clear hb8
    go_wp2_with fail
    refine (awake_any _).mono ?_
    rintro e w9 ⟨rfl, hb9⟩
    go_wp2_with fail
    go_ret
    exact ⟨rfl, bl_call HBW.out (bl_call K8.out hb9)⟩
end Go.Proofs.Ytikpdkgamcecjaa
