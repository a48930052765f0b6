/- The walk of the statement RationalMultiplies. -/
import Derived.Test.YtikpdkgamcecjaaS3
import Derived.Test.YtikpdkgamcecjaaO1
import Derived.Deep.RegionHeld3
namespace Go.Proofs.Ytikpdkgamcecjaa
open Go.RowKit
set_option linter.unusedSimpArgs false
set_option linter.unusedVariables false

set_option maxRecDepth 100000 in
set_option maxHeartbeats 4000000 in
theorem multiplies_walk (v : Value) (r : Raw) (u : Value) (s : Raw) (w : World) (hr : RdU w v r) (hs : RdU w u s) :
    Calls Try.prog 3 #[v, u] w fun e w' => e = .returned (.bool true) ∧ Below w.heap.size w w' := by
  obtain ⟨hr, u1r, u2r⟩ := hr
  obtain ⟨hs, u1s, u2s⟩ := hs
  have HR := Lib.hid hr
  have HS := Lib.hid hs
  have KR := Lib.hid (fun (W2 : World) (hb : Below w.heap.size w W2) => keepRat_any v r W2 (hr.below hb))
  have KS := Lib.hid (fun (W2 : World) (hb : Below w.heap.size w W2) => keepRat_any u s W2 (hs.below hb))
  have GR := Lib.hid (fun (h : smallB r = true) => small_good h u1r u2r)
  have GS := Lib.hid (fun (h : smallB s = true) => small_good h u1s u2s)
  obtain ⟨n1, d1, rfl, hn1, hd1⟩ := hr
  obtain ⟨n2, d2, rfl, hn2, hd2⟩ := hs
  obtain ⟨A1, c1, rfl, _, _⟩ := hn1.len
  obtain ⟨A2, c2, rfl, _, _⟩ := hd1.len
  obtain ⟨A3, c3, rfl, _, _⟩ := hn2.len
  obtain ⟨A4, c4, rfl, _, _⟩ := hd2.len
  clear hn1 hd1 hn2 hd2 u1r u2r u1s u2s
  go_enter Try.func3, Try.ntmps3
  go_wp2_with fail
  refine (KR.out _ (bl_alloc (bl_alloc (Below.refl _ _) _) _)).mono ?_
  cases hsr : smallB r
  · rintro e w1 ⟨rfl, hb1⟩
    go_wp2_with fail
    go_ret
    exact ⟨rfl, bl_call (bl_alloc (bl_alloc (Below.refl _ _) _) _) hb1⟩
  · rintro e w1 ⟨rfl, hb1⟩
    have HG1 := Lib.hid (blk_below (blk_alloc (blk_new w (.cells #[.bool r.neg, .slice A1 r.num.length c1, .slice A2 r.den.length c2] 24)) (.cells #[.bool s.neg, .slice A3 s.num.length c3, .slice A4 s.den.length c4] 24)) hb1)
    have HG2 := Lib.hid (blk_below (blk_new' (w := w.alloc (.cells #[.bool r.neg, .slice A1 r.num.length c1, .slice A2 r.den.length c2] 24)) (g := w.heap.size + 1) (by simp) (.cells #[.bool s.neg, .slice A3 s.num.length c3, .slice A4 s.den.length c4] 24)) hb1)
    have HB1 := Lib.hid (bl_call (bl_alloc (bl_alloc (Below.refl _ _) _) _) hb1)
    have gr := GR.out hsr
    have HCS := Lib.hid (show ∀ W, Below w1.heap.size w1 W → (W.cell? ⟨w.heap.size, 0, none⟩ = some (.bool r.neg) ∧ W.cell? ⟨w.heap.size, 1, none⟩ = some (.slice A1 r.num.length c1) ∧ W.cell? ⟨w.heap.size, 2, none⟩ = some (.slice A2 r.den.length c2) ∧ W.cell? ⟨w.heap.size + 1, 0, none⟩ = some (.bool s.neg) ∧ W.cell? ⟨w.heap.size + 1, 1, none⟩ = some (.slice A3 s.num.length c3) ∧ W.cell? ⟨w.heap.size + 1, 2, none⟩ = some (.slice A4 s.den.length c4) ∧ w.heap.size < W.heap.size ∧ w.heap.size + 1 < W.heap.size) from fun W hb =>
      ⟨blk_cell (blk_below HG1.out hb) 0, blk_cell (blk_below HG1.out hb) 1, blk_cell (blk_below HG1.out hb) 2, blk_cell (blk_below HG2.out hb) 0, blk_cell (blk_below HG2.out hb) 1, blk_cell (blk_below HG2.out hb) 2, blk_lt (blk_below HG1.out hb), blk_lt (blk_below HG2.out hb)⟩)
    obtain ⟨y0, y1, y2, y3, y4, y5, y6, y7⟩ := HCS.out w1 (Below.refl _ _)
    have LR := Lib.hid (fun (W : World) (hb : Below w1.heap.size w1 W) => HR.out.below (bl_call HB1.out hb))
    have LS := Lib.hid (fun (W : World) (hb : Below w1.heap.size w1 W) => HS.out.below (bl_call HB1.out hb))
    clear hb1
    go_wp2_with fail
    refine (KS.out _ HB1.out).mono ?_
    cases hss : smallB s
    · rintro e w2 ⟨rfl, hb2⟩
      go_wp2_with fail
      go_ret
      exact ⟨rfl, bl_call HB1.out hb2⟩
    · rintro e w2 ⟨rfl, hb2⟩
      have gs := GS.out hss
      have K2 := Lib.hid hb2
      obtain ⟨z0, z1, z2, z3, z4, z5, z6, z7⟩ := HCS.out w2 K2.out
      clear hb2 y0 y1 y2 y3 y4 y5 y6 y7
      go_wp2_with fail
      refine (Div_any (fun _ => True) _ _ r s _ (fun _ _ => trivial) (LR.out _ K2.out) (LS.out _ K2.out) (gr.le (by omega)) (gs.le (by omega))).mono ?_
      rintro e w3 ⟨q1, rfl, hq1, hb3⟩
      have HQ1 := Lib.hid hq1.now
      have K3 := Lib.hid (bl_call K2.out hb3)
      obtain ⟨y0, y1, y2, y3, y4, y5, y6, y7⟩ := HCS.out w3 K3.out
      obtain ⟨n5, d5, rfl, hn5, hd5⟩ := hq1
      obtain ⟨A5, c5, rfl, _, _⟩ := hn5.len
      obtain ⟨A6, c6, rfl, _, _⟩ := hd5.len
      clear hb3 z0 z1 z2 z3 z4 z5 z6 z7 hn5 hd5
      go_wp2_with fail
      refine (rDiv_any (fun _ => True) _ _ r s _ (fun _ _ => trivial) (LR.out _ (bl_alloc K3.out _)) (LS.out _ (bl_alloc K3.out _)) (gr.le (by omega)) (gs.le (by omega))).mono ?_
      rintro e w4 ⟨q2, rfl, hq2, hb4⟩
      have HG3 := Lib.hid (blk_below (blk_new _ _) hb4)
      have HQ2 := Lib.hid hq2.now
      have HQ14 := Lib.hid (HQ1.out.below (bl_call (bl_alloc (Below.refl _ _) _) hb4))
      have K4 := Lib.hid (bl_call (bl_alloc K3.out _) hb4)
      obtain ⟨n6, d6, rfl, hn6, hd6⟩ := hq2
      obtain ⟨A7, c7, rfl, _, _⟩ := hn6.len
      obtain ⟨A8, c8, rfl, _, _⟩ := hd6.len
      clear hb4 y0 y1 y2 y3 y4 y5 y6 y7 hn6 hd6
      go_upto_region 5 with (fail)
      obtain ⟨Q, hQ⟩ : ∃ Q, Q = raw (qv r / qv s) := ⟨_, rfl⟩
      rw [← hQ] at HQ14 HQ2 HG3 ⊢
      obtain ⟨W, hW⟩ : ∃ W, W = w4.alloc (.cells #[.bool Q.neg, .slice A7 Q.num.length c7, .slice A8 Q.den.length c8] 24) := ⟨_, rfl⟩
      have KW := Lib.hid (show Below w1.heap.size w1 W by rw [hW]; exact bl_alloc K4.out _)
      have B3 := Lib.hid (show W.heap[w3.heap.size]? = some (.cells #[.bool Q.neg, .slice A5 Q.num.length c5, .slice A6 Q.den.length c6] 24 (0, 0)) by rw [hW]; exact blk_alloc HG3.out _)
      have B4 := Lib.hid (show W.heap[w4.heap.size]? = some (.cells #[.bool Q.neg, .slice A7 Q.num.length c7, .slice A8 Q.den.length c8] 24 (0, 0)) by rw [hW]; exact blk_new _ _)
      have Q1 := Lib.hid (fun (W2 : World) (hb : Below W.heap.size W W2) => (show RdR W _ Q by rw [hW]; exact HQ14.out.below (bl_alloc (Below.refl _ _) _)).below hb)
      have Q2 := Lib.hid (fun (W2 : World) (hb : Below W.heap.size W W2) => (show RdR W _ Q by rw [hW]; exact HQ2.out.below (bl_alloc (Below.refl _ _) _)).below hb)
      rw [← hW]
      clear hW hQ
      have HK := Lib.hid (show ∀ w', Below W.heap.size W w' → (w'.cell? ⟨w.heap.size, 0, none⟩ = some (.bool r.neg) ∧ w'.cell? ⟨w.heap.size, 1, none⟩ = some (.slice A1 r.num.length c1) ∧ w'.cell? ⟨w.heap.size, 2, none⟩ = some (.slice A2 r.den.length c2) ∧ w'.cell? ⟨w.heap.size + 1, 0, none⟩ = some (.bool s.neg) ∧ w'.cell? ⟨w.heap.size + 1, 1, none⟩ = some (.slice A3 s.num.length c3) ∧ w'.cell? ⟨w.heap.size + 1, 2, none⟩ = some (.slice A4 s.den.length c4) ∧ w'.cell? ⟨w3.heap.size, 0, none⟩ = some (.bool Q.neg) ∧ w'.cell? ⟨w3.heap.size, 1, none⟩ = some (.slice A5 Q.num.length c5) ∧ w'.cell? ⟨w3.heap.size, 2, none⟩ = some (.slice A6 Q.den.length c6) ∧ w'.cell? ⟨w4.heap.size, 0, none⟩ = some (.bool Q.neg) ∧ w'.cell? ⟨w4.heap.size, 1, none⟩ = some (.slice A7 Q.num.length c7) ∧ w'.cell? ⟨w4.heap.size, 2, none⟩ = some (.slice A8 Q.den.length c8)) from fun w' hb => by
        obtain ⟨y0, y1, y2, y3, y4, y5, _, _⟩ := HCS.out w' (bl_call KW.out hb)
        exact ⟨y0, y1, y2, y3, y4, y5, blk_cell (blk_below B3.out hb) 0, blk_cell (blk_below B3.out hb) 1, blk_cell (blk_below B3.out hb) 2, blk_cell (blk_below B4.out hb) 0, blk_cell (blk_below B4.out hb) 1, blk_cell (blk_below B4.out hb) 2⟩)
      have RR := Lib.hid (fun (W2 : World) (hb : Below W.heap.size W W2) => LR.out _ (bl_call KW.out hb))
      have SS := Lib.hid (fun (W2 : World) (hb : Below W.heap.size W W2) => LS.out _ (bl_call KW.out hb))
      go_region_held3 (fun w' => w'.cell? ⟨w.heap.size, 0, none⟩ = some (.bool r.neg) ∧ w'.cell? ⟨w.heap.size, 1, none⟩ = some (.slice A1 r.num.length c1) ∧ w'.cell? ⟨w.heap.size, 2, none⟩ = some (.slice A2 r.den.length c2) ∧ w'.cell? ⟨w.heap.size + 1, 0, none⟩ = some (.bool s.neg) ∧ w'.cell? ⟨w.heap.size + 1, 1, none⟩ = some (.slice A3 s.num.length c3) ∧ w'.cell? ⟨w.heap.size + 1, 2, none⟩ = some (.slice A4 s.den.length c4) ∧ w'.cell? ⟨w3.heap.size, 0, none⟩ = some (.bool Q.neg) ∧ w'.cell? ⟨w3.heap.size, 1, none⟩ = some (.slice A5 Q.num.length c5) ∧ w'.cell? ⟨w3.heap.size, 2, none⟩ = some (.slice A6 Q.den.length c6) ∧ w'.cell? ⟨w4.heap.size, 0, none⟩ = some (.bool Q.neg) ∧ w'.cell? ⟨w4.heap.size, 1, none⟩ = some (.slice A7 Q.num.length c7) ∧ w'.cell? ⟨w4.heap.size, 2, none⟩ = some (.slice A8 Q.den.length c8))
        (first
          | (refine HK.out _ ?_; repeat (first | exact Below.refl _ _ | apply bl_drew | (refine bl_call ?_ (by assumption)))))
        (first
          | (go_at_call 21; refine (Mul_any (fun _ => True) _ _ r s _ (fun _ _ => trivial) ?_ ?_ (gr.le (by omega)) (gs.le (by omega))).mono ?_; (refine RR.out _ ?_; repeat (first | exact Below.refl _ _ | apply bl_drew | (refine bl_call ?_ (by assumption)))); (refine SS.out _ ?_; repeat (first | exact Below.refl _ _ | apply bl_drew | (refine bl_call ?_ (by assumption)))); rintro e v1 ⟨m1, rfl, hm1, hv1⟩; have HM1 := Lib.hid hm1.now; clear hm1)
          | (go_at_call 22; refine (rMul_any (fun _ => True) _ _ r s _ (fun _ _ => trivial) ?_ ?_ (gr.le (by omega)) (gs.le (by omega))).mono ?_; (refine RR.out _ ?_; repeat (first | exact Below.refl _ _ | apply bl_drew | (refine bl_call ?_ (by assumption)))); (refine SS.out _ ?_; repeat (first | exact Below.refl _ _ | apply bl_drew | (refine bl_call ?_ (by assumption)))); rintro e v2 ⟨m2, rfl, hm2, hv2⟩; have HM2 := Lib.hid hm2.now; clear hm2)
          | (go_at_call_of 20 m1; refine (sameRat_yes _ _ (raw (qv r * qv s)) _ ?_ ?_).mono ?_; (refine RdR.below HM1.out ?_; repeat (first | exact Below.refl _ _ | apply bl_drew | (refine bl_call ?_ (by assumption)))); (refine RdR.below HM2.out ?_; repeat (first | exact Below.refl _ _ | apply bl_drew | (refine bl_call ?_ (by assumption)))); rintro e v3 ⟨rfl, hv3⟩)
          | (go_at_call_of 20 (Value.slice A5 Q.num.length c5); refine (sameRat_yes _ _ Q _ ?_ ?_).mono ?_; (refine Q1.out _ ?_; repeat (first | exact Below.refl _ _ | apply bl_drew | (refine bl_call ?_ (by assumption)))); (refine Q2.out _ ?_; repeat (first | exact Below.refl _ _ | apply bl_drew | (refine bl_call ?_ (by assumption)))); rintro e v4 ⟨rfl, hv4⟩)
          | (go_at_call 23; refine (awake_any _).mono ?_; rintro e v7 ⟨rfl, hv7⟩))
      go_wp2_with fail
      go_ret
      exact ⟨rfl, bl_call (bl_call HB1.out KW.out) (by repeat (first | exact Below.refl _ _ | apply bl_drew | (refine bl_call ?_ (by assumption))))⟩
end Go.Proofs.Ytikpdkgamcecjaa
