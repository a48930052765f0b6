import Derived.Test.YtbfgnpbkgegegaaC3
import Derived.Deep.DeepCutAuto
import Derived.RegionTactic
namespace Go.Proofs.Ytbfgnpbkgegegaa
open Go.RowKit
set_option linter.unusedSimpArgs false
set_option linter.unusedVariables false

set_option maxRecDepth 100000 in
set_option maxHeartbeats 2000000 in
theorem comb_bad (v u : Value) (ms : List (List Int × List Int)) (ws : List Int) (w : World) (h : RdMs w v ms) (h' : Rd .i64 w u ws) (hm : ms.any badM = true) :
    Calls Try.prog 37 #[v, u] w fun e w' => ∃ r, e = .returned (.tuple #[r, .int .i64 10]) ∧ RdM w' r [] [] ∧ Below w.heap.size w w' := by
  have H := Lib.hid h
  obtain ⟨A, c, rfl, _, hx⟩ := h
  obtain ⟨A', c', rfl, _, hx'⟩ := h'
  clear hx hx'
  go_enter Try.func37, Try.ntmps37
  go_wp2_with fail
  refine (contains_anyM _ ms _ (H.out.below (bl_alloc (Below.refl _ _) _))).mono ?_
  rw [hm]
  rintro e w1 ⟨rfl, hb⟩
  have g := blk_below (blk_new w (.cells #[.slice none 0 0, .slice none 0 0] 28)) hb
  have m0 := blk_cell g 0
  have m1 := blk_cell g 1
  have m2 := blk_frozen g
  simp at m0 m1
  have HB := Lib.hid (bl_call (bl_alloc (Below.refl _ _) _) hb)
  clear hb g
  go_wp2_with fail
  refine bodyPost_ret (v := .tuple #[.agg #[.slice none 0 0, .slice none 0 0], .int .i64 10]) (by simp [results, Try.results37, go_sem, m0, m1]) rfl ⟨_, rfl, rdm_nil _, bl_set (bl_set HB.out (by simp) _) (by simp) _⟩
set_option maxRecDepth 100000 in
set_option maxHeartbeats 2000000 in
theorem comb_len (v u : Value) (ms : List (List Int × List Int)) (ws : List Int) (w : World) (h : RdMs w v ms) (h' : Rd .i64 w u ws) (hm : ms.any badM = false) (hn : ms.length ≠ ws.length) :
    Calls Try.prog 37 #[v, u] w fun e w' => ∃ r, e = .returned (.tuple #[r, .int .i64 8]) ∧ RdM w' r [] [] ∧ Below w.heap.size w w' := by
  have H := Lib.hid h
  obtain ⟨A, c, rfl, _, hx⟩ := h
  obtain ⟨A', c', rfl, _, hx'⟩ := h'
  clear hx hx'
  have hn2 : ((ms.length : Int) != (ws.length : Int)) = true := by simp; omega
  go_enter Try.func37, Try.ntmps37
  go_wp2_with fail
  refine (contains_anyM _ ms _ (H.out.below (bl_alloc (Below.refl _ _) _))).mono ?_
  rw [hm]
  rintro e w1 ⟨rfl, hb⟩
  have g := blk_below (blk_new w (.cells #[.slice none 0 0, .slice none 0 0] 28)) hb
  have m0 := blk_cell g 0
  have m1 := blk_cell g 1
  have m2 := blk_frozen g
  simp at m0 m1
  have HB := Lib.hid (bl_call (bl_alloc (Below.refl _ _) _) hb)
  clear hb g
  go_wp2_with fail
  all_goals first
    | (exfalso; omega)
    | (refine bodyPost_ret (v := .tuple #[.agg #[.slice none 0 0, .slice none 0 0], .int .i64 8]) (by simp [results, Try.results37, go_sem, m0, m1]) rfl ⟨_, rfl, rdm_nil _, bl_set (bl_set HB.out (by simp) _) (by simp) _⟩)
set_option maxRecDepth 100000 in
set_option maxHeartbeats 2000000 in
theorem comb_heavy (v u : Value) (ms : List (List Int × List Int)) (ws : List Int) (w : World) (h : RdMs w v ms) (h' : Rd .i64 w u ws) (hm : ms.any badM = false) (hn : ms.length = ws.length) (hw : ws.any heavyB = true) :
    Calls Try.prog 37 #[v, u] w fun e w' => ∃ r, e = .returned (.tuple #[r, .int .i64 8]) ∧ RdM w' r [] [] ∧ Below w.heap.size w w' := by
  have H := Lib.hid h
  have H' := Lib.hid h'
  obtain ⟨A, c, rfl, _, hx⟩ := h
  obtain ⟨A', c', rfl, _, hx'⟩ := h'
  clear hx hx'
  rw [hn] at H ⊢
  have HN := Lib.hid hn
  clear hn
  go_enter Try.func37, Try.ntmps37
  go_wp2_with fail
  refine (contains_anyM _ ms _ (H.out.below (bl_alloc (Below.refl _ _) _))).mono ?_
  rw [hm]
  rintro e w1 ⟨rfl, hb⟩
  have g := blk_below (blk_new w (.cells #[.slice none 0 0, .slice none 0 0] 28)) hb
  have m0 := blk_cell g 0
  have m1 := blk_cell g 1
  have m2 := blk_frozen g
  simp at m0 m1
  have HB := Lib.hid (bl_call (bl_alloc (Below.refl _ _) _) hb)
  clear hb g
  go_wp2_with (go_at_call 39; refine (contains_any47 _ ws _ (H'.out.below HB.out)).mono ?_; rw [hw]; rintro e w2 ⟨rfl, rfl⟩)
  all_goals first
    | (exfalso; omega)
    | (refine bodyPost_ret (v := .tuple #[.agg #[.slice none 0 0, .slice none 0 0], .int .i64 8]) (by simp [results, Try.results37, go_sem, m0, m1]) rfl ⟨_, rfl, rdm_nil _, bl_set (bl_set HB.out (by simp) _) (by simp) _⟩)
def PkRelH (xs : List Int) (i : Value) : Prop := ∃ j : Nat, j ≤ xs.length ∧ i = .int .i64 j ∧ (xs.take j).any heavyB = false
set_option maxRecDepth 100000 in
set_option maxHeartbeats 8000000 in
theorem comb_sum (v u : Value) (ms : List (List Int × List Int)) (ws : List Int) (w : World) (h : RdMs w v ms) (h' : Rd .i64 w u ws) (hm : ms.any badM = false) (hw : ws.any heavyB = false) (S : Sums ms ws) (hl : ms.length ≤ 100) :
    Calls Try.prog 37 #[v, u] w fun e w' => ∃ r, e = .returned (.tuple #[r, .int .i64 (combE ms ws)]) ∧ RdM w' r (combB ms ws) (combF ms ws) ∧ Below w.heap.size w w' := by
  have H := Lib.hid h
  have H' := Lib.hid h'
  have HS := Lib.hid S
  obtain ⟨A, c, rfl, hq1, hx⟩ := h
  obtain ⟨A', c', rfl, hq2, hx'⟩ := h'
  have HCM := Lib.hid hx
  have HCW := Lib.hid hx'
  clear hx hx'
  have HN := Lib.hid S.len
  rw [← S.len] at H' HCW hq2 ⊢
  clear S
  go_enter Try.func37, Try.ntmps37
  go_wp2_with fail
  refine (contains_anyM _ ms _ (H.out.below (bl_alloc (Below.refl _ _) _))).mono ?_
  rw [hm]
  rintro e w1 ⟨rfl, hb⟩
  have HG1 := Lib.hid (blk_below (blk_new w (.cells #[.slice none 0 0, .slice none 0 0] 28)) hb)
  have HB := Lib.hid (bl_call (bl_alloc (Below.refl _ _) _) hb)
  clear hb
  go_wp2_with (go_at_call 39; refine (contains_any47 _ ws _ (H'.out.below HB.out)).mono ?_; rw [hw]; rintro e w2 ⟨rfl, rfl⟩)
  all_goals try (exfalso; omega)
  refine (free_own _).mono ?_
  rintro e w2 ⟨r, rfl, ⟨g1, g2, c1, c2, rfl, ⟨y1, y2, y3, y4, y5⟩, o1, o2, _, _⟩, hb⟩
  have HG2 := Lib.hid (blk_below HG1.out hb)
  have HB2 := Lib.hid (bl_call HB.out hb)
  have l0 := blk_lt HG1.out
  have l1 := o1.lt
  have l2 := o2.lt
  have HO1 := Lib.hid o1
  have HO2 := Lib.hid o2
  clear o1 o2 hb HG1 HB
  have d1 : g1 ≠ w.heap.size := by omega
  have d2 : g2 ≠ w.heap.size := by omega
  have hd : CDis w w2.heap.size g1 g2 := ⟨by omega, by omega, d1, d2, by omega, by omega, y3⟩
  have HD := Lib.hid hd
  clear hd
  go_wp2_with fail
  go_loopw [28] (fun i wr => ∃ k : Nat, k ≤ ms.length ∧ i = .int .i64 k ∧ CSt w w2.heap.size g1 g2 c1 c2 (row (fS Prod.fst ms ws) k 0) (row (fS Prod.snd ms ws) k 0) wr) (fun i _ => ms.length - (intOf i).toNat)
  case atStart =>
    refine ⟨0, Nat.zero_le _, rfl, ?_⟩
    rw [row_zero, row_zero]
    exact ⟨bl_alloc HB2.out _, blk_alloc HG2.out _, blk_new _ _, HO1.out.alloc _, HO2.out.alloc _⟩
  case round =>
    obtain ⟨k, hk, rfl, hst⟩ := hrel
    by_cases hlt : k < ms.length
    · have hne : ms ≠ [] := by rintro rfl; simp at hlt
      have hnw : ws ≠ [] := by rintro rfl; have h9 := HN.out; rw [List.length_nil] at h9; omega
      obtain ⟨ad, rfl, hcell⟩ := HCM.out.resolve_left hne
      obtain ⟨ad', rfl, hcell'⟩ := HCW.out.resolve_left hnw
      obtain ⟨b, f, q1, q2, rb, rf⟩ := hcell k hlt
      have hww := hcell' k hlt
      obtain ⟨s1, s2⟩ := HS.out.rows k hlt
      have SB := Lib.hid (HS.out.stepB k · hlt)
      have SF := Lib.hid (HS.out.stepF k · hlt)
      obtain ⟨m, hm⟩ : ∃ m, m = ms.getD k ([], []) := ⟨_, rfl⟩
      obtain ⟨wk, hwk⟩ : ∃ x, x = ws.getD k 0 := ⟨_, rfl⟩
      rw [← hm] at rb rf s1 s2 SB SF
      rw [← hwk] at SB SF hww
      obtain ⟨bs, fs⟩ := m
      simp only at rb rf s1 s2 SB SF
      clear hm hwk hcell hcell' hne hnw
      have l3 := hst.2.2.2.1.lt
      have l4 := hst.2.2.2.2.lt
      have Q1 : wr.cell? (ad.add (k * 2)) = some b := (hst.1.cell (World.block_lt_of_cell? w _ q1)).trans q1
      have Q2 : wr.cell? ⟨(ad.add (k * 2)).block, (ad.add (k * 2)).off + 1, none⟩ = some f := (hst.1.cell (World.block_lt_of_cell? w _ q2)).trans q2
      obtain ⟨A1, k1, rfl, _, x1⟩ := rb
      obtain ⟨A2, k2, rfl, _, x2⟩ := rf
      rw [s1] at Q1
      rw [s2] at Q2
      rw [s1] at x1
      rw [s2] at x2
      obtain ⟨ab, rfl, X1⟩ := x1.resolve_left (by rintro rfl; simp at s1)
      obtain ⟨af, rfl, X2⟩ := x2.resolve_left (by rintro rfl; simp at s2)
      have RX1 := Lib.hid X1
      have RX2 := Lib.hid X2
      have RW := Lib.hid hww
      have HST := Lib.hid hst
      clear X1 X2 x1 x2 q1 q2 hww hst s1 s2
      go_wp2_with fail
      obtain ⟨gk, hgk⟩ : ∃ n, n = wr.heap.size := ⟨_, rfl⟩
      obtain ⟨V, hV⟩ : ∃ V, V = wr.alloc (.cells #[.slice (some ab) 26 k1, .slice (some af) 26 k2] 28) := ⟨_, rfl⟩
      have HV := Lib.hid (show CSt w w2.heap.size g1 g2 c1 c2 (row (fS Prod.fst ms ws) k 0) (row (fS Prod.snd ms ws) k 0) V by rw [hV]; exact HST.out.alloc _)
      have HVK := Lib.hid (show V.heap[gk]? = some (.cells #[.slice (some ab) 26 k1, .slice (some af) 26 k2] 28 (0, 0)) by rw [hV, hgk]; exact blk_new _ _)
      have e1 : gk ≠ g1 := by omega
      have e2 : gk ≠ g2 := by omega
      rw [← hV, ← hgk]
      clear hV hgk Q1 Q2 HST l3 l4
      go_loopw [33] (fun i wx => ∃ j : Nat, j ≤ 26 ∧ i = .int .i64 j ∧ CSt w w2.heap.size g1 g2 c1 c2 (row (fS Prod.fst ms ws) k j) (row (fS Prod.snd ms ws) k j) wx ∧ wx.heap[gk]? = some (.cells #[.slice (some ab) 26 k1, .slice (some af) 26 k2] 28 (0, 0))) (fun i _ => 26 - (intOf i).toNat)
      case atStart => exact ⟨0, Nat.zero_le _, rfl, HV.out, HVK.out⟩
      case round =>
        obtain ⟨j, hj, rfl, hst, hgk⟩ := hrel
        by_cases hjt : j < 26
        · obtain ⟨v1, v2, v3, v4, v5⟩ := SB.out j hjt
          obtain ⟨t1, t2, t3, t4, t5⟩ := SF.out j hjt
          have X1 : wr.cell? (ab.add j) = some (.int .i64 (bs.getD j 0)) := (hst.1.cell (World.block_lt_of_cell? w _ (RX1.out j hjt))).trans (RX1.out j hjt)
          have X2 : wr.cell? (af.add j) = some (.int .i64 (fs.getD j 0)) := (hst.1.cell (World.block_lt_of_cell? w _ (RX2.out j hjt))).trans (RX2.out j hjt)
          have XW : wr.cell? (ad'.add k) = some (.int .i64 wk) := (hst.1.cell (World.block_lt_of_cell? w _ RW.out)).trans RW.out
          have n1 := hst.2.2.2.1.cell (i := j) (by rw [row_len]; exact hjt)
          rw [row_at _ _ _ hjt] at n1
          have f1 := hst.2.2.2.1.frozen j
          have p0 := blk_cell hst.2.2.1 0
          have p1 := blk_cell hst.2.2.1 1
          have r0 := blk_cell hgk 0
          have r1 := blk_cell hgk 1
          simp at p0 p1 r0 r1
          obtain ⟨x, hx⟩ : ∃ x, x = bs.getD j 0 := ⟨_, rfl⟩
          obtain ⟨y, hy⟩ : ∃ x, x = fs.getD j 0 := ⟨_, rfl⟩
          obtain ⟨a, ha⟩ : ∃ a, a = fS Prod.fst ms ws k j := ⟨_, rfl⟩
          obtain ⟨a2, ha2⟩ : ∃ a, a = fS Prod.snd ms ws k j := ⟨_, rfl⟩
          rw [← hx] at X1 v1 v4 v5
          rw [← hy] at X2 t1 t4 t5
          rw [← ha] at v1 v2 v3 n1
          rw [← ha2] at t1 t2 t3
          have HX2 := Lib.hid (show w.cell? (af.add j) = some (.int .i64 y) by rw [hy]; exact RX2.out j hjt)
          have HA2 := Lib.hid ha2
          have E1 := Lib.hid v1
          have E2 := Lib.hid t1
          have HST := Lib.hid hst
          have HGK := Lib.hid hgk
          clear v1 t1 hx hy ha ha2 hst hgk X2
          go_upto_region 12 with (fail)
          go_cut [] (fun wc => CSt w w2.heap.size g1 g2 c1 c2 (row (fS Prod.fst ms ws) k (j + 1)) (row (fS Prod.snd ms ws) k j) wc ∧ wc.heap[gk]? = some (.cells #[.slice (some ab) 26 k1, .slice (some af) 26 k2] 28 (0, 0)))
          case first =>
            go_region
            all_goals go_wp2
            all_goals go_meet
            all_goals
              refine ⟨CSt.drew ?_, ?_⟩
              · rw [row_set _ _ _ hjt, E1.out]
                exact HST.out.set1 HD.out (by rw [row_len]; exact hjt) _
              · exact blk_far HGK.out e1 _
          case rest =>
            obtain ⟨hst, hgk⟩ := hcut
            clear n1 f1 p0 p1 r0 r1 X1 XW HST HGK
            have X2 : wc.cell? (af.add j) = some (.int .i64 y) := (hst.1.cell (World.block_lt_of_cell? w _ HX2.out)).trans HX2.out
            have XW : wc.cell? (ad'.add k) = some (.int .i64 wk) := (hst.1.cell (World.block_lt_of_cell? w _ RW.out)).trans RW.out
            have n1 := hst.2.2.2.2.cell (i := j) (by rw [row_len]; exact hjt)
            rw [row_at _ _ _ hjt, ← HA2.out] at n1
            have f1 := hst.2.2.2.2.frozen j
            have p0 := blk_cell hst.2.2.1 0
            have p1 := blk_cell hst.2.2.1 1
            have r0 := blk_cell hgk 0
            have r1 := blk_cell hgk 1
            simp at p0 p1 r0 r1
            have HST := Lib.hid hst
            have HGK := Lib.hid hgk
            clear hst hgk
            go_wp2
            go_region
            all_goals go_wp2
            all_goals
              refine ⟨⟨j + 1, by omega, by go_num, CSt.drew ?_, ?_⟩, ?_⟩
              · rw [row_set (fS Prod.snd ms ws) k j hjt, E2.out]
                exact HST.out.set2 HD.out (by rw [row_len]; exact hjt) _
              · exact blk_far HGK.out e2 _
              · simp [intOf]; omega
        · obtain rfl : j = 26 := by omega
          have HST := Lib.hid hst
          clear hst hgk
          go_wp2_with fail
          refine ⟨⟨k + 1, by omega, by go_num, ?_⟩, by simp [intOf]; omega⟩
          rw [← row_next, ← row_next]
          exact HST.out
    · obtain rfl : k = ms.length := by omega
      have hst' : CSt w w2.heap.size g1 g2 c1 c2 (sumB ms ws) (sumF ms ws) wr := hst
      have zB : (sumB ms ws).length = 26 := row_len _ _ _
      have zF : (sumF ms ws).length = 26 := row_len _ _ _
      obtain ⟨zs, hzs⟩ : ∃ zs, zs = sumB ms ws ++ sumF ms ws := ⟨_, rfl⟩
      have hz52 : zs.length = 52 := by rw [hzs, List.length_append, zB, zF]
      have HZ := Lib.hid hzs
      have ZB := Lib.hid zB
      have ZF := Lib.hid zF
      have p0 := blk_cell hst'.2.2.1 0
      have p1 := blk_cell hst'.2.2.1 1
      simp at p0 p1
      have HST := Lib.hid hst'
      clear hst hst' hzs zB zF hlt
      go_wp2_with fail
      refine (concat_any wr.heap.size _ _ c1 c2 (sumB ms ws) (sumF ms ws) _ ZB.out ZF.out (blk_new _ _) ((HST.out.2.2.2.1.alloc _).rd ZB.out.symm (by rw [ZB.out]; exact y4) (by rw [ZB.out]; omega)) ((HST.out.2.2.2.2.alloc _).rd ZF.out.symm (by rw [ZF.out]; exact y5) (by rw [ZF.out]; omega))).mono ?_
      rw [← HZ.out]
      rintro e w3 ⟨r, rfl, hr, hb3⟩
      have HB3 := Lib.hid (bl_call (bl_alloc (Below.refl _ _) _) hb3)
      have HR3 := Lib.hid hr
      obtain ⟨Ar, cr, rfl, hrl, hrc⟩ := hr
      have HRC := Lib.hid hrc
      clear hrc hb3 p0 p1
      have G0 := Lib.hid (blk_below HST.out.2.1 HB3.out)
      have GM := Lib.hid (blk_below HST.out.2.2.1 HB3.out)
      have m0 := blk_cell G0.out 0
      have m1 := blk_cell G0.out 1
      have m2 := blk_frozen G0.out
      have p0 := blk_cell GM.out 0
      have p1 := blk_cell GM.out 1
      simp at m0 m1 p0 p1
      have lw0 := blk_lt G0.out
      have RM := Lib.hid (show ∀ W, Below w3.heap.size w3 W → RdM W (.agg #[.slice (some ⟨g1, 0, none⟩) 26 c1, .slice (some ⟨g2, 0, none⟩) 26 c2]) (sumB ms ws) (sumF ms ws) from fun W hW =>
        ⟨_, _, rfl, ((HST.out.2.2.2.1.below HB3.out).below hW).rd ZB.out.symm (by rw [ZB.out]; exact y4) (by rw [ZB.out]; omega), ((HST.out.2.2.2.2.below HB3.out).below hW).rd ZF.out.symm (by rw [ZF.out]; exact y5) (by rw [ZF.out]; omega)⟩)
      have HBW := Lib.hid (bl_call HST.out.1 HB3.out)
      go_wp2_with fail
      go_loop [11, 79] (fun _ i => PkRelH zs i) (fun _ i => zs.length - (intOf i).toNat)
      case atStart => exact ⟨0, Nat.zero_le _, rfl, by simp⟩
      case round =>
        obtain ⟨j, hj, rfl, hn⟩ := hrel
        have HNN := Lib.hid hn
        clear hn
        by_cases hjt : j < zs.length
        · have hne : zs ≠ [] := by rintro rfl; simp at hjt
          obtain ⟨ar, rfl, hcell⟩ := HRC.out.resolve_left hne
          have h1 := hcell j hjt
          have hs := Lib.hid (any_take_snoc heavyB zs j hjt)
          obtain ⟨x, hx⟩ : ∃ x, x = zs.getD j 0 := ⟨_, rfl⟩
          rw [← hx] at h1 hs
          clear hcell hne hx
          cases hp : heavyB x
          · have hxx : -1000 ≤ x ∧ x ≤ 1000 := by unfold heavyB at hp; simp at hp; omega
            obtain ⟨x1, x2⟩ := hxx
            have HP := Lib.hid hp
            clear hp
            go_wp2_with fail
            all_goals first
              | (exfalso; omega)
              | (refine ⟨⟨j + 1, by omega, by go_num, by rw [hs.out, HNN.out, HP.out]; rfl⟩, ?_⟩
                 simp [intOf]; omega)
          · have hxx : x < -1000 ∨ 1000 < x := by unfold heavyB at hp; simp at hp; omega
            have HE := Lib.hid (show combE ms ws = 9 by
              have h9 : zs.any heavyB = true := any_of_take heavyB zs (j + 1) (by rw [hs.out, HNN.out, hp]; rfl)
              rw [HZ.out] at h9
              unfold combE
              rw [hm, hw, if_neg (by simp), if_neg (by simp [HN.out]), if_pos h9])
            clear hp
            go_wp2_with fail
            all_goals first
              | (exfalso; omega)
              | (refine bodyPost_ret (v := .tuple #[.agg #[.slice none 0 0, .slice none 0 0], .int .i64 9]) (by simp [results, Try.results37, go_sem, m0, m1]) rfl ⟨.agg #[.slice none 0 0, .slice none 0 0], by rw [HE.out], by rw [(comb_err HE.out (by omega)).1, (comb_err HE.out (by omega)).2]; exact rdm_nil _, bl_set (bl_set HBW.out (by simp) _) (by simp) _⟩)
        · have HW := Lib.hid (show (sumB ms ws ++ sumF ms ws).any heavyB = false by
            have h9 := HNN.out
            rwa [List.take_of_length_le (by omega), HZ.out] at h9)
          go_wp2_with fail
          refine (valid_any _ (sumB ms ws) (sumF ms ws) _ (RM.out _ (Below.refl _ _))).mono ?_
          cases hv : validM (sumB ms ws) (sumF ms ws)
          · have HE := Lib.hid (show combE ms ws = 10 by
              unfold combE
              rw [hm, hw, if_neg (by simp), if_neg (by simp [HN.out]), HW.out, if_neg (by simp), if_pos hv])
            rintro e w4 ⟨rfl, hb4⟩
            have G4 := Lib.hid (blk_below G0.out hb4)
            have HB4 := Lib.hid (bl_call HBW.out hb4)
            clear m0 m1 m2 hb4
            have m0 := blk_cell G4.out 0
            have m1 := blk_cell G4.out 1
            have m2 := blk_frozen G4.out
            simp at m0 m1
            go_wp2_with fail
            refine bodyPost_ret (v := .tuple #[.agg #[.slice none 0 0, .slice none 0 0], .int .i64 10]) (by simp [results, Try.results37, go_sem, m0, m1]) rfl ⟨.agg #[.slice none 0 0, .slice none 0 0], by rw [HE.out], by rw [(comb_err HE.out (by omega)).1, (comb_err HE.out (by omega)).2]; exact rdm_nil _, bl_set (bl_set HB4.out (by simp) _) (by simp) _⟩
          · have HE := Lib.hid (show combE ms ws = 0 by
              unfold combE
              rw [hm, hw, if_neg (by simp), if_neg (by simp [HN.out]), HW.out, if_neg (by simp), hv, if_neg (by simp)])
            rintro e w4 ⟨rfl, hb4⟩
            have G4 := Lib.hid (blk_below G0.out hb4)
            have GM4 := Lib.hid (blk_below GM.out hb4)
            have HB4 := Lib.hid (bl_call HBW.out hb4)
            have O1 := Lib.hid ((HST.out.2.2.2.1.below HB3.out).below hb4)
            have O2 := Lib.hid ((HST.out.2.2.2.2.below HB3.out).below hb4)
            clear m0 m1 m2 hb4 p0 p1
            have m0 := blk_cell G4.out 0
            have m1 := blk_cell G4.out 1
            have m2 := blk_frozen G4.out
            have p0 := blk_cell GM4.out 0
            have p1 := blk_cell GM4.out 1
            simp at m0 m1 p0 p1
            go_wp2_with fail
            refine bodyPost_ret (v := .tuple #[.agg #[.slice (some ⟨g1, 0, none⟩) 26 c1, .slice (some ⟨g2, 0, none⟩) 26 c2], .int .i64 0]) (by simp [results, Try.results37, go_sem, m0, m1]) rfl ⟨_, by rw [HE.out], ?_, bl_set (bl_set HB4.out (by simp) _) (by simp) _⟩
            unfold combB combF
            rw [HE.out, if_pos rfl, if_pos rfl]
            exact ⟨_, _, rfl, ((O1.out.far d1 _).far d1 _).rd ZB.out.symm (by rw [ZB.out]; exact y4) (by rw [ZB.out]; omega), ((O2.out.far d2 _).far d2 _).rd ZF.out.symm (by rw [ZF.out]; exact y5) (by rw [ZF.out]; omega)⟩
theorem combine_any (v u : Value) (ms : List (List Int × List Int)) (ws : List Int) (w : World) (h : RdMs w v ms) (h' : Rd .i64 w u ws) (hl : ms.length ≤ 100) :
    Calls Try.prog 37 #[v, u] w fun e w' => ∃ r, e = .returned (.tuple #[r, .int .i64 (combE ms ws)]) ∧ RdM w' r (combB ms ws) (combF ms ws) ∧ Below w.heap.size w w' := by
  cases hm : ms.any badM
  · by_cases hn : ms.length = ws.length
    · cases hw : ws.any heavyB
      · exact comb_sum v u ms ws w h h' hm hw (sums_of hl hm hn hw) hl
      · have E : combE ms ws = 8 := by unfold combE; rw [hm, hw, if_neg (by simp), if_pos (by simp)]
        obtain ⟨e1, e2⟩ := comb_err E (by omega)
        rw [E, e1, e2]
        exact comb_heavy v u ms ws w h h' hm hn hw
    · have E : combE ms ws = 8 := by unfold combE; rw [hm, if_neg (by simp), if_pos (.inl hn)]
      obtain ⟨e1, e2⟩ := comb_err E (by omega)
      rw [E, e1, e2]
      exact comb_len v u ms ws w h h' hm hn
  · have E : combE ms ws = 10 := by unfold combE; rw [hm, if_pos rfl]
    obtain ⟨e1, e2⟩ := comb_err E (by omega)
    rw [E, e1, e2]
    exact comb_bad v u ms ws w h h' hm
end Go.Proofs.Ytbfgnpbkgegegaa
