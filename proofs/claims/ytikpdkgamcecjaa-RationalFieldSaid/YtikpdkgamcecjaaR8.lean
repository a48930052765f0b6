/- Walks: step, the guess. -/
import Derived.Test.YtikpdkgamcecjaaR7
import Derived.Test.YtikpdkgamcecjaaM1
import Derived.Deep.DeepCutAuto
import Derived.Deep.CutBlock
namespace Go.Proofs.Ytikpdkgamcecjaa
open Go.RowKit
set_option linter.unusedSimpArgs false
set_option linter.unusedVariables false

theorem gb_drewN {w W : World} {row : Option Nat} (h : w.grownBy W row) (n : Nat) : w.grownBy (W.drewN n) row := ⟨h.os, h.tape, h.output, h.size, h.block⟩
theorem gb_drew {w W : World} {row : Option Nat} (h : w.grownBy W row) : w.grownBy W.drew row := ⟨h.os, h.tape, h.output, h.size, h.block⟩
theorem gb_set {w W : World} {g : Nat} (h : w.grownBy W (some g)) (i : Nat) (x : Value) : w.grownBy (W.setCell ⟨g, i, none⟩ x) (some g) :=
  ⟨h.os, h.tape, h.output, by simpa using h.size, fun k hk hne => (Below.heap_setCell W ⟨g, i, none⟩ x k (fun e => hne (by rw [e]))).trans (h.block k hk hne)⟩
theorem Rdf.grown {k : IntKind} {w w1 : World} {ok : Nat → Prop} {v : Value} {xs : List Int} {g : Nat} (h : Rdf k w ok v xs) (hg : w.grownBy w1 (some g)) (hne : ¬ ok g) : Rdf k w1 ok v xs :=
  h.move (fun b hb hl => hg.block b hl (fun e => hne (by injection e with e; exact e ▸ hb)))
theorem ArrU.grown {w w1 : World} {g g2 : Nat} {zs : List Int} (h : ArrU w g zs) (hg : w.grownBy w1 (some g2)) (hne : g ≠ g2) : ArrU w1 g zs :=
  (hg.block g (blk_lt h) (fun e => hne (by injection e))).trans h

set_option maxRecDepth 100000 in
set_option maxHeartbeats 8000000 in
theorem step_any (ok : Nat → Prop) (g j n n1 n2 cu cv : Nat) (av : Addr) (zs ys : List Int) (w : World) (hn1 : n1 + 1 = n) (hn2 : n2 + 2 = n) (hu : ArrU w g zs) (hv : Rdf .u32 w ok (.slice (some av) n cv) ys) (hok : ¬ ok g)
    (hjn : j + n < zs.length) (hyn : ys.length = n) (hlz : zs.length ≤ 1073741824) (hcu : n + 1 ≤ cu)
    (ht : Top (ws zs j (n + 1)) (vs ys n) (zs.getD (j + n) 0) (zs.getD (j + n1) 0) (zs.getD (j + n2) 0) (ys.getD n1 0) (ys.getD n2 0)) (ly : Lb ys) (lz : ∀ k, k ≤ n → 0 ≤ zs.getD (j + k) 0 ∧ zs.getD (j + k) 0 < 1000000000) :
    Calls Try.prog 87 #[.slice (some ⟨g, j, none⟩) (n + 1) cu, .slice (some av) n cv] w fun e w' => ∃ zs', e = .returned (.int .u32 (ws zs j (n + 1) / vs ys n)) ∧ ArrU w' g zs' ∧ zs'.length = zs.length ∧ (∀ k, k < j ∨ j + n < k → zs'.getD k 0 = zs.getD k 0) ∧ (∀ k, k ≤ n → 0 ≤ zs'.getD (j + k) 0 ∧ zs'.getD (j + k) 0 < 1000000000) ∧ ws zs' j (n + 1) = ws zs j (n + 1) % vs ys n ∧ w.grownBy w' (some g) := by
  have HV := Lib.hid hv
  have HU := Lib.hid hu
  have HT := Lib.hid ht
  have LY := Lib.hid ly
  have LZ := Lib.hid lz
  obtain ⟨a0, b0⟩ := ht.hu0
  obtain ⟨a1, b1⟩ := ht.hu1
  obtain ⟨a2, b2⟩ := ht.hu2
  obtain ⟨a3, b3⟩ := ht.hv1
  obtain ⟨a4, b4⟩ := ht.hv2
  clear ht
  have HGS := Lib.hid (gs_start HT.out)
  -- the cells that the guess reads
  have hcv : ∀ (W : World), w.grownBy W (some g) → ∀ k, k < n → W.cell? (av.add k) = some (.int .u32 (ys.getD k 0)) := by
    intro W hW k hk
    obtain ⟨ad, e, _, hc⟩ := (HV.out.grown hW hok).now.at_ (i := k) (by omega)
    injection e with e
    rw [e]; exact hc
  have HCV := Lib.hid hcv
  have c1 := hu.cell (show j + n < zs.length by omega)
  have c2 := hu.cell (show j + n1 < zs.length by omega)
  have c3 := hu.cell (show j + n2 < zs.length by omega)
  have c4 := hcv w (World.grownBy.refl w _) n1 (by omega)
  have c5 := hcv w (World.grownBy.refl w _) n2 (by omega)
  clear hv hu ly lz hcv
  obtain ⟨U, hU⟩ : ∃ U, U = ws zs j (n + 1) := ⟨_, rfl⟩
  obtain ⟨V, hV⟩ : ∃ V, V = vs ys n := ⟨_, rfl⟩
  obtain ⟨u0, hu0⟩ : ∃ u, u = zs.getD (j + n) 0 := ⟨_, rfl⟩
  obtain ⟨u1, hu1⟩ : ∃ u, u = zs.getD (j + n1) 0 := ⟨_, rfl⟩
  obtain ⟨u2, hu2⟩ : ∃ u, u = zs.getD (j + n2) 0 := ⟨_, rfl⟩
  obtain ⟨v1, hv1⟩ : ∃ u, u = ys.getD n1 0 := ⟨_, rfl⟩
  obtain ⟨v2, hv2⟩ : ∃ u, u = ys.getD n2 0 := ⟨_, rfl⟩
  rw [← hU, ← hV] at HGS HT
  rw [← hu0] at HGS HT c1 a0 b0
  rw [← hu1] at HGS HT c2 a1 b1
  rw [← hu2] at HT c3 a2 b2
  rw [← hv1] at HGS HT c4 a3 b3
  rw [← hv2] at HT c5 a4 b4
  have HUV := Lib.hid (And.intro hU hV)
  have m1 : (n : Int) - 1 = n1 := by omega
  have m2 : (n : Int) - 2 = n2 := by omega
  have o1 : n1 < n := by omega
  have o2 : n2 < n := by omega
  have o3 : n1 < n + 1 := by omega
  have o4 : n2 < n + 1 := by omega
  have o5 : n < n + 1 := by omega
  clear hu0 hu1 hu2 hv1 hv2 hU hV
  go_enter Try.func87, Try.ntmps87
  go_upto_block 0 with (fail)
  repeat (go_quiet (fail); go_upto_block 0 with (fail))
  go_cut [7] (fun v7 wc => ∃ (q : Int) (nn : Nat), v7 = .int .u64 q ∧ (0 ≤ q ∧ q < 1000000000 ∧ (q - 1) * V ≤ U ∧ U < (q + 1) * V) ∧ wc = w.drewN nn)
  case first =>
    go_wp2
    go_loopw [7, 8] (fun x r wr => ∃ (q rr : Int) (nn : Nat), x = .int .u64 q ∧ r = .int .u64 rr ∧ (GS U V u0 u1 v1 q rr ∧ rr < 1000000000) ∧ wr = w.drewN nn) (fun _ r _ => (1000000000 - intOf r).toNat)
    case atStart => exact ⟨_, _, _, rfl, rfl, HGS.out, by first | rfl | exact World.drewN_drewN ..⟩
    case round =>
      obtain ⟨q, rr, nn, rfl, rfl, hgs, rfl⟩ := hrel
      have HG := Lib.hid hgs.1
      obtain ⟨⟨d1, d2, d3, d4, d5⟩, d6⟩ := hgs
      have HD := Lib.hid d1
      clear d1 d5
      by_cases hge : 1000000000 ≤ q
      · have HL := Lib.hid (gs_less HT.out HG.out (.inl hge))
        have hq1 := HL.out.2
        have tg : decide (1000000000 ≤ q) = true := by simpa using hge
        by_cases hr : 1000000000 ≤ rr + v1
        · have HE := Lib.hid (gs_end HT.out HL.out.1 (.inl hr))
          go_wp2
          go_quiet (fail)
          go_wp2
          go_meet
          case rel => exact ⟨q - 1, _, rfl, ⟨by omega, HE.out.1, HE.out.2.1, HE.out.2.2⟩, by first | rfl | exact World.drewN_drewN ..⟩
        · go_wp2
          go_quiet (fail)
          go_wp2
          go_roundw
          case measure => simp [intOf]; omega
          case rel => exact ⟨q - 1, rr + v1, _, rfl, rfl, ⟨HL.out.1, by omega⟩, by first | rfl | exact World.drewN_drewN ..⟩
      · have hq2 : q < 1000000000 := by omega
        have tg : decide (1000000000 ≤ q) = false := by simpa using hge
        obtain ⟨p1, p2⟩ := mul_pos_bd d2 (show q ≤ 999999999 by omega) a4 (show v2 ≤ 999999999 by omega)
        by_cases hgt : rr * 1000000000 + u2 < q * v2
        · have HL := Lib.hid (gs_less HT.out HG.out (.inr hgt))
          have hq1 := HL.out.2
          by_cases hr : 1000000000 ≤ rr + v1
          · have HE := Lib.hid (gs_end HT.out HL.out.1 (.inl hr))
            go_wp2
            go_quiet (fail)
            go_wp2
            go_meet
            case rel => exact ⟨q - 1, _, rfl, ⟨by omega, HE.out.1, HE.out.2.1, HE.out.2.2⟩, by first | rfl | exact World.drewN_drewN ..⟩
          · go_wp2
            go_quiet (fail)
            go_wp2
            go_roundw
            case measure => simp [intOf]; omega
            case rel => exact ⟨q - 1, rr + v1, _, rfl, rfl, ⟨HL.out.1, by omega⟩, by first | rfl | exact World.drewN_drewN ..⟩
        · have HE := Lib.hid (gs_end HT.out HG.out (.inr ⟨hq2, by omega⟩))
          go_wp2
          go_quiet (fail)
          go_wp2
          go_meet
          case rel => exact ⟨q, _, rfl, ⟨d2, HE.out.1, HE.out.2.1, HE.out.2.2⟩, by first | rfl | exact World.drewN_drewN ..⟩
  case rest =>
    obtain ⟨q, nn, rfl, ⟨d0, d1, d2, d3⟩, rfl⟩ := hcut
    go_wp2
    go_loopw [9, 10, 11, 12, 13, 84] (fun s9 s10 s11 s12 s13 s84 wr => ∃ (i : Nat) (c b : Int) (xs : List Int), i ≤ n + 1 ∧ s84 = .int .i64 i ∧ s9 = .int .u32 b ∧ s10 = .int .u64 c ∧ ArrU wr g xs ∧ TS zs ys xs j q c b i ∧ w.grownBy wr (some g)) (fun _ _ _ _ _ u _ => n + 1 - (intOf u).toNat)
    case atStart => exact ⟨0, 0, 0, zs, by omega, rfl, rfl, rfl, HU.out, ⟨rfl, fun k _ => rfl, fun k hk => by omega, by simp [ws, vs], by omega, by omega, by omega, by omega, fun h => rfl⟩, by first | exact gb_drewN (World.grownBy.refl w _) _ | exact World.grownBy.refl w _⟩
    case round =>
      obtain ⟨i, c, b, xs, hi, rfl, rfl, rfl, ha, hts, hgb⟩ := hrel
      have HA := Lib.hid ha
      have HTS := Lib.hid hts
      obtain ⟨f1, f2, f3, f4, f5, f6, f7, f8, f9⟩ := hts
      have HF2 := Lib.hid f2
      clear ha f2 f3 f4 f9
      by_cases hin : i < n + 1
      · obtain ⟨u, hu⟩ : ∃ u, u = xs.getD (j + i) 0 := ⟨_, rfl⟩
        have hz := HA.out.cell (show j + i < xs.length by omega)
        have hf := HA.out.free (j + i)
        have hu2 : zs.getD (j + i) 0 = u := by rw [hu]; exact (HF2.out (j + i) (.inr (Nat.le_refl _))).symm
        obtain ⟨g0, g1⟩ := LZ.out i (by omega)
        rw [hu2] at g0 g1
        rw [← hu] at hz
        by_cases hyl : i < n
        · have hy0 := LY.out i (by omega)
          have hstep := fun s t => ts_step (s := s) (t := t) HTS.out (by omega) (by omega) ⟨d0, d1⟩ hy0
          have hcy := HCV.out wr hgb i hyl
          obtain ⟨y, hy⟩ : ∃ y, y = ys.getD i 0 := ⟨_, rfl⟩
          rw [hu2] at hstep
          rw [← hy] at hstep hcy hy0
          obtain ⟨y0, y1⟩ := hy0
          obtain ⟨p1, p2, p3, p4⟩ := ts_bd ⟨d0, d1⟩ ⟨y0, y1⟩ ⟨f5, f6⟩
          have HS := Lib.hid hstep
          clear hstep hu hu2 hy
          by_cases hlt : u < (c + q * y) % 1000000000 + b
          · have H2 := Lib.hid (HS.out (u + 1000000000 - ((c + q * y) % 1000000000 + b)) 1 (by omega) (by omega) (by omega))
            go_wp2
            go_roundw
            case measure => simp [intOf] <;> omega
            case rel => exact ⟨i + 1, _, _, _, by omega, by go_num, rfl, rfl, HA.out.set (j + i) _, H2.out, gb_set hgb _ _⟩
          · have H2 := Lib.hid (HS.out (u - ((c + q * y) % 1000000000 + b)) 0 (by omega) (by omega) (by omega))
            go_wp2
            go_roundw
            case measure => simp [intOf] <;> omega
            case rel => exact ⟨i + 1, _, _, _, by omega, by go_num, rfl, rfl, HA.out.set (j + i) _, H2.out, gb_set hgb _ _⟩
        · obtain rfl : i = n := by omega
          have hy0 : ys.getD i 0 = 0 := getD_of_ge (by omega)
          have hstep := fun s t => ts_step (s := s) (t := t) HTS.out (by omega) (by omega) ⟨d0, d1⟩ (by rw [hy0]; omega)
          rw [hu2, hy0, Int.mul_zero, Int.add_zero] at hstep
          have HS := Lib.hid hstep
          clear hstep hu hu2 hy0 hyl
          by_cases hlt : u < (c) % 1000000000 + b
          · have H2 := Lib.hid (HS.out (u + 1000000000 - ((c) % 1000000000 + b)) 1 (by omega) (by omega) (by omega))
            go_wp2
            go_roundw
            case measure => simp [intOf] <;> omega
            case rel => exact ⟨i + 1, _, _, _, by omega, by go_num, rfl, rfl, HA.out.set (j + i) _, H2.out, gb_set hgb _ _⟩
          · have H2 := Lib.hid (HS.out (u - ((c) % 1000000000 + b)) 0 (by omega) (by omega) (by omega))
            go_wp2
            go_roundw
            case measure => simp [intOf] <;> omega
            case rel => exact ⟨i + 1, _, _, _, by omega, by go_num, rfl, rfl, HA.out.set (j + i) _, H2.out, gb_set hgb _ _⟩
      · obtain rfl : i = n + 1 := by omega
        by_cases hb0 : b = 0
        · subst hb0
          have HE := Lib.hid (ts_end0 HTS.out hyn (by rw [← HUV.out.1, ← HUV.out.2]; exact d3))
          have HT2 := HTS.out
          go_wp2
          go_ret
          refine ⟨xs, by rw [HE.out.1]; rfl, HA.out, f1, fun k hk => HF2.out k (by omega), fun k hk => (HTS.out).2.2.1 k (by omega), HE.out.2, hgb⟩
        · obtain rfl : b = 1 := by omega
          have hq1 : 1 ≤ q := by
            by_cases e : 1 ≤ q
            · exact e
            · exfalso
              have e0 : q = 0 := by omega
              have h1 := HTS.out.2.2.2.1
              have h2 := (ws_lt (n + 1) HTS.out.2.2.1).2
              have h3 := HTS.out.2.2.2.2.2.2.2.2 (by omega)
              have h4 := (ws_lt (n + 1) (fun k hk => LZ.out k (by omega))).1
              rw [e0, h3] at h1
              omega
          obtain ⟨wo, rfl⟩ : ∃ wo : World, wo = wr := ⟨_, rfl⟩
          have LX := Lib.hid (HTS.out).2.2.1
          have HTS1 := Lib.hid HTS.out
          have HA1 := Lib.hid HA.out
          have hgb1 := Lib.hid hgb
          have hlx := f1
          clear HTS HA hgb f1 f5 f6 f7 f8 hb0
          go_wp2
          go_loopw [14, 15, 16, 137] (fun s14 s15 s16 u wr2 => ∃ (i : Nat) (c : Int) (xs2 : List Int), i ≤ n + 1 ∧ u = .int .i64 i ∧ s14 = .int .u32 c ∧ ArrU wr2 g xs2 ∧ BS xs ys xs2 j c i ∧ w.grownBy wr2 (some g)) (fun _ _ _ u _ => n + 1 - (intOf u).toNat)
          case atStart => exact ⟨0, 0, xs, by omega, rfl, rfl, HA1.out, ⟨rfl, fun k _ => rfl, fun k hk => by omega, by simp [ws, vs], by omega, by omega⟩, hgb1.out⟩
          case round =>
            obtain ⟨i, c, xs2, hi, rfl, rfl, ha, hbs, hgb⟩ := hrel
            have HA := Lib.hid ha
            have HBS := Lib.hid hbs
            obtain ⟨f1, f2, f3, f4, f5, f6⟩ := hbs
            have HF2 := Lib.hid f2
            clear ha f2 f3 f4
            by_cases hin : i < n + 1
            · obtain ⟨u, hu⟩ : ∃ u, u = xs2.getD (j + i) 0 := ⟨_, rfl⟩
              have hz := HA.out.cell (show j + i < xs2.length by omega)
              have hf := HA.out.free (j + i)
              have hu2 : xs.getD (j + i) 0 = u := by rw [hu]; exact (HF2.out (j + i) (.inr (Nat.le_refl _))).symm
              obtain ⟨g0, g1⟩ := LX.out i hin
              rw [hu2] at g0 g1
              rw [← hu] at hz
              have hstep := fun s t => bs_step (s := s) (t := t) HBS.out (by omega)
              rw [hu2] at hstep
              by_cases hyl : i < n
              · have hy0 := LY.out i (by omega)
                have hcy := HCV.out wr hgb i hyl
                obtain ⟨y, hy⟩ : ∃ y, y = ys.getD i 0 := ⟨_, rfl⟩
                rw [← hy] at hstep hcy hy0
                obtain ⟨y0, y1⟩ := hy0
                have HS := Lib.hid hstep
                clear hstep hu hu2 hy
                by_cases hlt : 1000000000 ≤ u + c + y
                · have H2 := Lib.hid (HS.out (u + c + y - 1000000000) 1 (by omega) (by omega) (by omega))
                  go_wp2
                  go_roundw
                  case measure => simp [intOf] <;> omega
                  case rel => exact ⟨i + 1, _, _, by omega, by go_num, rfl, HA.out.set (j + i) _, H2.out, gb_set hgb _ _⟩
                · have H2 := Lib.hid (HS.out (u + c + y) 0 (by omega) (by omega) (by omega))
                  go_wp2
                  go_roundw
                  case measure => simp [intOf] <;> omega
                  case rel => exact ⟨i + 1, _, _, by omega, by go_num, rfl, HA.out.set (j + i) _, H2.out, gb_set hgb _ _⟩
              · obtain rfl : i = n := by omega
                have hy0 : ys.getD i 0 = 0 := getD_of_ge (by omega)
                rw [hy0, Int.add_zero] at hstep
                have HS := Lib.hid hstep
                clear hstep hu hu2 hy0 hyl
                by_cases hlt : 1000000000 ≤ u + c
                · have H2 := Lib.hid (HS.out (u + c - 1000000000) 1 (by omega) (by omega) (by omega))
                  go_wp2
                  go_roundw
                  case measure => simp [intOf] <;> omega
                  case rel => exact ⟨i + 1, _, _, by omega, by go_num, rfl, HA.out.set (j + i) _, H2.out, gb_set hgb _ _⟩
                · have H2 := Lib.hid (HS.out (u + c) 0 (by omega) (by omega) (by omega))
                  go_wp2
                  go_roundw
                  case measure => simp [intOf] <;> omega
                  case rel => exact ⟨i + 1, _, _, by omega, by go_num, rfl, HA.out.set (j + i) _, H2.out, gb_set hgb _ _⟩
            · obtain rfl : i = n + 1 := by omega
              have HE := Lib.hid (ts_end1 HTS1.out hyn (by rw [← HUV.out.1, ← HUV.out.2]; exact d2) LY.out HBS.out)
              have HB2 := Lib.hid HBS.out
              go_wp2
              go_ret
              refine ⟨xs2, by rw [HE.out.1]; rfl, HA.out, by rw [f1, hlx], fun k hk => ?_, fun k hk => HB2.out.2.2.1 k (by omega), HE.out.2, hgb⟩
              rw [HF2.out k (by omega)]
              exact (HTS1.out).2.1 k (by omega)
end Go.Proofs.Ytikpdkgamcecjaa
