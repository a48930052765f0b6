/- Walks: Canonical. -/
import Derived.Test.YtikpdkgamcecjaaR12
import Derived.Deep.RegionHeld3
namespace Go.Proofs.Ytikpdkgamcecjaa
open Go.RowKit
set_option linter.unusedSimpArgs false
set_option linter.unusedVariables false

theorem made_any (ok : Nat → Prop) (neg : Bool) (v u : Value) (a b : Nat) (w : World) (hok : ∀ b, w.heap.size ≤ b → ok b) (hx : Rd .u32 w v (limbs a)) (hy : Rd .u32 w u (limbs b)) (hb : b ≠ 0) (hn : (limbs a).length ≤ 16777216) (hm : (limbs b).length ≤ 16777216) :
    Calls Try.prog 57 #[.bool neg, v, u] w fun e w' => ∃ r, e = .returned r ∧ RdRaw w' ok r (raw (mkRat (sg neg a) b)) ∧ Below w.heap.size w w' := by
  by_cases ha : a = 0
  · subst ha
    rw [show mkRat (sg neg 0) b = 0 by unfold sg; cases neg <;> simp [Rat.zero_mkRat]]
    exact made_zero ok neg v u w hok hx
  · exact made_pos ok neg v u a b w hok hx hy ha hb hn hm

/-- Limbs are uint32, and not too many. -/
structure Good (L : Nat) (r : Raw) : Prop where
  num : U32 r.num
  den : U32 r.den
  ln : r.num.length ≤ L
  ld : r.den.length ≤ L
theorem qv_of {r : Raw} (h0 : 0 ≤ val r.num) : qv r = mkRat (sg r.neg (val r.num).toNat) (val r.den).toNat := rfl

/-- A number in memory. -/
def RdR (w : World) (v : Value) (r : Raw) : Prop := RdRaw w (fun _ => True) v r
theorem RdRaw.now {w : World} {ok : Nat → Prop} {v : Value} {r : Raw} (h : RdRaw w ok v r) : RdR w v r := h.mono (fun _ _ _ => trivial)
theorem RdR.below {w w1 : World} {v : Value} {r : Raw} (h : RdR w v r) (hb : Below w.heap.size w w1) : RdR w1 v r := RdRaw.below h hb

set_option maxHeartbeats 4000000 in
theorem canon_any (ok : Nat → Prop) (v : Value) (r : Raw) (w : World) (hok : ∀ b, w.heap.size ≤ b → ok b) (h : RdR w v r) (hg : Good 8388608 r) :
    Calls Try.prog 48 #[v] w fun e w' => ∃ u, e = .returned u ∧ RdRaw w' ok u (raw (qv r)) ∧ Below w.heap.size w w' := by
  obtain ⟨n, d, rfl, hn, hd⟩ := h
  obtain ⟨neg, xs, ys⟩ := r
  obtain ⟨g1, g2, g3, g4⟩ := hg
  simp only at hn hd g1 g2 g3 g4
  obtain ⟨vx0, vxl⟩ := u32_len g1
  obtain ⟨vy0, vyl⟩ := u32_len g2
  have hq : qv ⟨neg, xs, ys⟩ = mkRat (sg neg (val xs).toNat) (val ys).toNat := rfl
  rw [hq]
  obtain ⟨a, ha⟩ : ∃ a, a = (val xs).toNat := ⟨_, rfl⟩
  obtain ⟨b, hb⟩ : ∃ b, b = (val ys).toNat := ⟨_, rfl⟩
  rw [← ha] at vxl ⊢
  rw [← hb] at vyl ⊢
  have HN := Lib.hid (hn.mono (ok' := fun x => x ≠ w.heap.size + 1) (fun b h1 h2 => by omega))
  have HD := Lib.hid (hd.mono (ok' := fun x => x ≠ w.heap.size + 1) (fun b h1 h2 => by omega))
  have HOK := Lib.hid (show ∀ W : World, w.heap.size + 2 ≤ W.heap.size → ∀ b, W.heap.size ≤ b → ok b ∧ b ≠ w.heap.size + 1 from fun W h b h2 => ⟨hok b (by omega), by omega⟩)
  have NX := Lib.hid (fun (W : World) (h1 : w.heap.size + 2 ≤ W.heap.size) (h2 : Below w.heap.size w W) => norm_any (fun x => x ≠ w.heap.size + 1) n xs W (fun b h => by omega) (HN.out.below h2).now g1 (by omega))
  have NY := Lib.hid (fun (W : World) (h1 : w.heap.size + 2 ≤ W.heap.size) (h2 : Below w.heap.size w W) => norm_any (fun x => x ≠ w.heap.size + 1) d ys W (fun b h => by omega) (HD.out.below h2).now g2 (by omega))
  rw [← ha] at NX
  rw [← hb] at NY
  obtain ⟨A1, c1, rfl, _, _⟩ := hn.len
  obtain ⟨A2, c2, rfl, _, _⟩ := hd.len
  clear hn hd hok g1 g2 ha hb hq vx0 vy0
  by_cases hb0 : b = 0
  · have t1 : (((limbs b).length : Int) == 0) = true := by rw [hb0, limbs_zero]; rfl
    have HE := Lib.hid (show mkRat (sg neg a) b = 0 by rw [hb0]; exact Rat.mkRat_zero _)
    clear hb0
    go_enter Try.func48, Try.ntmps48
    go_wp2_with fail
    refine (NY.out _ (by simp) (bl_alloc (bl_alloc (Below.refl _ _) _) _)).mono ?_
    rintro e w1 ⟨r1, rfl, hr1, hb1⟩
    have hbx := Lib.hid (show Below w.heap.size w w1 from bl_call (bl_alloc (bl_alloc (Below.refl _ _) _) _) hb1)
    have g5 := blk_below (blk_new' (w := w.alloc (.cells #[.bool neg, .slice A1 xs.length c1, .slice A2 ys.length c2] 24)) (g := w.heap.size + 1) (by simp) (.cells #[.bool false, .slice none 0 0, .slice none 0 0] 24)) hb1
    have G5 := Lib.hid g5
    have hs1 : w.heap.size + 2 ≤ w1.heap.size := by have := hb1.size; simp at this; omega
    obtain ⟨A3, c3, rfl, _, _⟩ := hr1.len
    clear hr1 g5 hb1
    go_wp2_with fail
    refine (made_zero (fun x => ok x ∧ x ≠ w.heap.size + 1) false _ _ _ (HOK.out _ hs1) (by rw [limbs_zero]; exact rd_nil _ _ _)).mono ?_
    rintro e w2 ⟨r2, rfl, ⟨n2, d2, rfl, hn2, hd2⟩, hb2⟩
    have HN2 := Lib.hid hn2
    have HD2 := Lib.hid hd2
    have g6 := blk_below G5.out hb2
    have m0 := blk_cell g6 0
    have m1 := blk_cell g6 1
    have m2 := blk_cell g6 2
    have mf := blk_frozen g6
    simp at m0 m1 m2
    have HB2 := Lib.hid (bl_call hbx.out hb2)
    obtain ⟨A4, c4, rfl, l7, l8⟩ := hn2.len
    obtain ⟨A5, c5, rfl, l9, l10⟩ := hd2.len
    clear hn2 hd2 hb2 g6
    go_wp2_with fail
    refine bodyPost_ret (v := .agg #[.bool (raw 0).neg, .slice A4 (raw 0).num.length c4, .slice A5 (raw 0).den.length c5]) (by simp [results, Try.results48, go_sem, m0, m1, m2]) rfl ⟨_, rfl, ?_, ?_⟩
    · rw [HE.out]
      refine ⟨_, _, rfl, ?_, ?_⟩
      · exact (((HN2.out.set (fun h => h.2 rfl) _).set (fun h => h.2 rfl) _).set (fun h => h.2 rfl) _).mono (fun b _ h => h.1)
      · exact (((HD2.out.set (fun h => h.2 rfl) _).set (fun h => h.2 rfl) _).set (fun h => h.2 rfl) _).mono (fun b _ h => h.1)
    · exact bl_set (bl_set (bl_set HB2.out (by simp) _) (by simp) _) (by simp) _
  · have HB0 := Lib.hid hb0
    have t1 : (((limbs b).length : Int) == 0) = false := by
      have h1 : limbs b ≠ [] := fun e => hb0 (limbs_eq_nil.1 e)
      simpa using h1
    clear hb0
    go_enter Try.func48, Try.ntmps48
    go_wp2_with fail
    refine (NY.out _ (by simp) (bl_alloc (bl_alloc (Below.refl _ _) _) _)).mono ?_
    rintro e w1 ⟨r1, rfl, hr1, hb1⟩
    have HR1 := Lib.hid hr1
    have hbx := Lib.hid (show Below w.heap.size w w1 from bl_call (bl_alloc (bl_alloc (Below.refl _ _) _) _) hb1)
    have g5 := blk_below (blk_new' (w := w.alloc (.cells #[.bool neg, .slice A1 xs.length c1, .slice A2 ys.length c2] 24)) (g := w.heap.size + 1) (by simp) (.cells #[.bool false, .slice none 0 0, .slice none 0 0] 24)) hb1
    have G5 := Lib.hid g5
    have g4' := blk_below (blk_alloc (blk_new w (.cells #[.bool neg, .slice A1 xs.length c1, .slice A2 ys.length c2] 24)) (.cells #[.bool false, .slice none 0 0, .slice none 0 0] 24)) hb1
    have q0 := blk_cell g4' 0
    have q1 := blk_cell g4' 1
    have G4 := Lib.hid g4'
    simp at q0 q1
    have hs1 : w.heap.size + 2 ≤ w1.heap.size := by have := hb1.size; simp at this; omega
    obtain ⟨A3, c3, rfl, _, _⟩ := hr1.len
    clear hr1 g5 g4' hb1
    go_wp2_with fail
    have HK := Lib.hid (show ∀ w', Below w1.heap.size w1 w' → w'.cell? ⟨w.heap.size, 0, none⟩ = some (.bool neg) ∧ w'.cell? ⟨w.heap.size, 1, none⟩ = some (.slice A1 xs.length c1) from fun w' hb => ⟨blk_cell (blk_below G4.out hb) 0, blk_cell (blk_below G4.out hb) 1⟩)
    go_region_held3 (fun w' => w'.cell? ⟨w.heap.size, 0, none⟩ = some (.bool neg) ∧ w'.cell? ⟨w.heap.size, 1, none⟩ = some (.slice A1 xs.length c1))
      (first | (exact HK.out _ (Below.refl _ _)) | (exact HK.out _ (bl_drew (Below.refl _ _))) | (exact HK.out _ HB2.out) | (exact HK.out _ HB3.out) | (have hk := HK.out _ HB3.out; simp [go_sem, hk.1, hk.2]; done) | go_keep)
      (first
        | (go_at_call 65; refine (NX.out _ ?_ ?_).mono ?_; (simp; omega); (exact bl_drew hbx.out); rintro e w2 ⟨r2, rfl, hr2, hb2⟩; have HR2 := Lib.hid hr2; have HB2 := Lib.hid (bl_call (bl_drew (Below.refl _ _)) hb2); obtain ⟨A4, c4, rfl, l5, l6⟩ := hr2.len; clear hr2 hb2)
        | (go_at_call 57; refine (made_any (fun x => ok x ∧ x ≠ w.heap.size + 1) neg _ _ a b _ ?_ HR2.out.now (HR1.out.below HB2.out).now HB0.out (by omega) (by omega)).mono ?_; (exact HOK.out _ (Nat.le_trans hs1 HB2.out.size)); rintro e w3 ⟨r3, rfl, ⟨n3, d3, rfl, hn3, hd3⟩, hb3⟩; have HN3 := Lib.hid hn3; have HD3 := Lib.hid hd3; have HB3 := Lib.hid (bl_call HB2.out hb3); have m0 := blk_cell (blk_below G5.out HB3.out) 0; have m1 := blk_cell (blk_below G5.out HB3.out) 1; have m2 := blk_cell (blk_below G5.out HB3.out) 2; have mf := blk_frozen (blk_below G5.out HB3.out); simp at m0 m1 m2; obtain ⟨A5, c5, rfl, l7, l8⟩ := hn3.len; obtain ⟨A6, c6, rfl, l9, l10⟩ := hd3.len; clear hn3 hd3 hb3))
    go_wp2_with fail
    refine bodyPost_ret (v := .agg #[.bool (raw (mkRat (sg neg a) b)).neg, .slice A5 (raw (mkRat (sg neg a) b)).num.length c5, .slice A6 (raw (mkRat (sg neg a) b)).den.length c6]) (by simp [results, Try.results48, go_sem, m0, m1, m2]) rfl ⟨_, rfl, ?_, ?_⟩
    · refine ⟨_, _, rfl, ?_, ?_⟩
      · exact (((HN3.out.set (fun h => h.2 rfl) _).set (fun h => h.2 rfl) _).set (fun h => h.2 rfl) _).mono (fun b _ h => h.1)
      · exact (((HD3.out.set (fun h => h.2 rfl) _).set (fun h => h.2 rfl) _).set (fun h => h.2 rfl) _).mono (fun b _ h => h.1)
    · exact bl_set (bl_set (bl_set (bl_call hbx.out HB3.out) (by simp) _) (by simp) _) (by simp) _
end Go.Proofs.Ytikpdkgamcecjaa
