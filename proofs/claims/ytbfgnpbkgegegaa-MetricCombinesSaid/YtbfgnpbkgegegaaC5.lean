import Derived.Test.YtbfgnpbkgegegaaC4
import Derived.Test.YtbfgnpbkgegegaaQ3
namespace Go.Proofs.Ytbfgnpbkgegegaa
open Go.RowKit
set_option linter.unusedSimpArgs false
set_option linter.unusedVariables false

theorem cat_heavy {B F : List Int} (hB : B.length = 26) (hF : F.length = 26) (h : ∀ c, c < 26 → heavyB (B.getD c 0) = false ∧ heavyB (F.getD c 0) = false) : (B ++ F).any heavyB = false := by
  rw [List.any_append, Bool.or_eq_false_iff]
  constructor
  · rw [List.any_eq_false]
    intro x hx
    obtain ⟨i, hi, rfl⟩ := List.mem_iff_getElem.1 hx
    have := (h i (by omega)).1
    simpa [List.getD_eq_getElem?_getD, List.getElem?_eq_getElem hi] using this
  · rw [List.any_eq_false]
    intro x hx
    obtain ⟨i, hi, rfl⟩ := List.mem_iff_getElem.1 hx
    have := (h i (by omega)).2
    simpa [List.getD_eq_getElem?_getD, List.getElem?_eq_getElem hi] using this
theorem cat_heavy_yes {B F : List Int} (hB : B.length = 26) (hF : F.length = 26) {c : Nat} (hc : c < 26) (h : heavyB (B.getD c 0) = true ∨ heavyB (F.getD c 0) = true) : (B ++ F).any heavyB = true := by
  rw [List.any_append, Bool.or_eq_true]
  rcases h with h | h
  · left
    rw [List.any_eq_true]
    refine ⟨B[c], List.getElem_mem _, ?_⟩
    simpa [List.getD_eq_getElem?_getD, List.getElem?_eq_getElem (show c < B.length by omega)] using h
  · right
    rw [List.any_eq_true]
    refine ⟨F[c], List.getElem_mem _, ?_⟩
    simpa [List.getD_eq_getElem?_getD, List.getElem?_eq_getElem (show c < F.length by omega)] using h
def PkRelC (B F : List Int) (i : Value) : Prop := ∃ j : Nat, j ≤ 26 ∧ i = .int .i64 j ∧ ∀ c, c < j → heavyB (B.getD c 0) = false ∧ heavyB (F.getD c 0) = false
theorem light_of {x : Int} (h : heavyB x = false) : -1000 ≤ x ∧ x ≤ 1000 := by unfold heavyB at h; simp at h; omega
theorem heavy_of {x : Int} (h : heavyB x = true) : x < -1000 ∨ 1000 < x := by unfold heavyB at h; simp at h; omega

set_option maxRecDepth 100000 in
set_option maxHeartbeats 8000000 in
theorem rcombine_any (v u : Value) (ms : List (List Int × List Int)) (ws : List Int) (w : World) (h : RdMs w v ms) (h' : Rd .i64 w u ws) (hl : ms.length ≤ 100) :
    Calls Try.prog 38 #[v, u] w fun e w' => ∃ r, e = .returned (.tuple #[r, .int .i64 (combE ms ws)]) ∧ RdM w' r (combB ms ws) (combF ms ws) ∧ Below w.heap.size w w' := by
  have H := Lib.hid h
  have H' := Lib.hid h'
  obtain ⟨A, c, rfl, hq1, hx⟩ := h
  obtain ⟨A', c', rfl, hq2, hx'⟩ := h'
  have HCM := Lib.hid hx
  have HCW := Lib.hid hx'
  clear hx hx'
  go_enter Try.func38, Try.ntmps38
  go_wp2_with fail
  go_loopw [17] (fun i wr => ∃ k : Nat, k ≤ ms.length ∧ i = .int .i64 k ∧ (ms.take k).any badM = false ∧ Below w.heap.size w wr ∧ wr.heap[w.heap.size]? = some (.cells #[.slice none 0 0, .slice none 0 0] 28 (0, 0))) (fun i _ => ms.length - (intOf i).toNat)
  case atStart => exact ⟨0, Nat.zero_le _, rfl, by simp, bl_alloc (Below.refl _ _) _, blk_new _ _⟩
  case round =>
    obtain ⟨k, hk, rfl, hn, hb, hg⟩ := hrel
    have HN := Lib.hid hn
    have HB := Lib.hid hb
    have HG := Lib.hid hg
    clear hn
    by_cases hlt : k < ms.length
    · have hne : ms ≠ [] := by rintro rfl; simp at hlt
      obtain ⟨ad, rfl, hcell⟩ := HCM.out.resolve_left hne
      obtain ⟨b, f, q1, q2, hb1, hb2⟩ := (hcell k hlt).below hb
      have hs := Lib.hid (bad_take_snoc ms k hlt)
      obtain ⟨m, hm⟩ : ∃ m, m = ms.getD k ([], []) := ⟨_, rfl⟩
      rw [← hm] at hb1 hb2 hs
      have l0 := blk_lt hg
      have HMM := Lib.hid (show ∀ W, Below wr.heap.size wr W → RdM W (.agg #[b, f]) m.1 m.2 from fun W hW => ⟨_, _, rfl, hb1.below hW, hb2.below hW⟩)
      obtain ⟨A1, c1, rfl, _, hx1⟩ := hb1
      obtain ⟨A2, c2, rfl, _, hx2⟩ := hb2
      clear hcell hne hm hx1 hx2 hb hg
      cases hp : badM m
      · have HP := Lib.hid (show validM m.1 m.2 = true by unfold badM at hp; simpa using hp)
        have HP2 := Lib.hid hp
        clear hp
        go_wp2_with fail
        refine (rvalid_any _ m.1 m.2 _ (HMM.out _ (bl_alloc (Below.refl _ _) _))).mono ?_
        rw [HP.out]
        rintro e w' ⟨rfl, hb3⟩
        have HB3 := Lib.hid (bl_call (bl_alloc HB.out _) hb3)
        have HG3 := Lib.hid (blk_below (blk_alloc HG.out _) hb3)
        clear hb3
        go_wp2_with fail
        go_roundw
        case measure => simp [intOf]; omega
        case rel => exact ⟨k + 1, by omega, by go_num, by rw [hs.out, HN.out, HP2.out]; rfl, HB3.out, HG3.out⟩
      · have HP := Lib.hid (show validM m.1 m.2 = false by unfold badM at hp; simpa using hp)
        have HE := Lib.hid (show combE ms ws = 10 by
          unfold combE; rw [bad_of_take ms (k + 1) (by rw [hs.out, HN.out, hp]; rfl), if_pos rfl])
        clear hp
        go_wp2_with fail
        refine (rvalid_any _ m.1 m.2 _ (HMM.out _ (bl_alloc (Below.refl _ _) _))).mono ?_
        rw [HP.out]
        rintro e w' ⟨rfl, hb3⟩
        have HB3 := Lib.hid (bl_call (bl_alloc HB.out _) hb3)
        have HG3 := Lib.hid (blk_below (blk_alloc HG.out _) hb3)
        clear hb3
        have m0 := blk_cell HG3.out 0
        have m1 := blk_cell HG3.out 1
        have m2 := blk_frozen HG3.out
        simp at m0 m1
        go_wp2_with fail
        refine bodyPost_ret (v := .tuple #[.agg #[.slice none 0 0, .slice none 0 0], .int .i64 10]) (by simp [results, Try.results38, go_sem, m0, m1]) rfl ⟨.agg #[.slice none 0 0, .slice none 0 0], by rw [HE.out], by rw [(comb_err HE.out (by omega)).1, (comb_err HE.out (by omega)).2]; exact rdm_nil _, bl_set (bl_set HB3.out (by simp) _) (by simp) _⟩
    · have hm : ms.any badM = false := by
        have h9 := HN.out
        rwa [List.take_of_length_le (by omega)] at h9
      obtain rfl : k = ms.length := by omega
      clear HN hlt hk
      have m0 := blk_cell hg 0
      have m1 := blk_cell hg 1
      have m2 := blk_frozen hg
      simp at m0 m1
      clear hb hg
      by_cases hn : ms.length = ws.length
      · rw [← hn] at H' HCW hq2 ⊢
        have HN := Lib.hid hn
        clear hn
        obtain ⟨W, hW⟩ : ∃ W, W = wr := ⟨_, rfl⟩
        rw [← hW] at HB HG m0 m1 m2 ⊢
        clear hW
        go_wp2_with fail
        go_loop [9, 34] (fun _ i => ∃ k : Nat, k ≤ ms.length ∧ i = .int .i64 k ∧ (ws.take k).any heavyB = false) (fun _ i => ms.length - (intOf i).toNat)
        case atStart => exact ⟨0, Nat.zero_le _, rfl, by simp⟩
        case round =>
          obtain ⟨j, hj, rfl, hnn⟩ := hrel
          have HNN := Lib.hid hnn
          clear hnn
          by_cases hjt : j < ms.length
          · have hne : ws ≠ [] := by rintro rfl; have h9 := HN.out; rw [List.length_nil] at h9; omega
            obtain ⟨ar, rfl, hcell⟩ := HCW.out.resolve_left hne
            have h1 : W.cell? (ar.add j) = some (.int .i64 (ws.getD j 0)) := (HB.out.cell (World.block_lt_of_cell? w _ (hcell j hjt))).trans (hcell j hjt)
            have hs := Lib.hid (any_take_snoc heavyB ws j (by rw [← HN.out]; exact hjt))
            obtain ⟨x, hx⟩ : ∃ x, x = ws.getD j 0 := ⟨_, rfl⟩
            rw [← hx] at h1 hs
            clear hcell hne hx
            cases hp : heavyB x
            · obtain ⟨x1, x2⟩ := light_of hp
              have HP := Lib.hid hp
              clear hp
              go_wp2_with fail
              all_goals first
                | (exfalso; omega)
                | (go_round
                   case rel => exact ⟨j + 1, by omega, by go_num, by rw [hs.out, HNN.out, HP.out]; rfl⟩
                   case measure => simp [intOf]; omega)
                | (refine ⟨⟨_, _, ⟨j + 1, by omega, by go_num, by rw [hs.out, HNN.out, HP.out]; rfl⟩, rfl, rfl⟩, ?_⟩
                   simp [intOf]; omega)
            · have hxx := heavy_of hp
              have HE := Lib.hid (show combE ms ws = 8 by
                unfold combE; rw [hm, any_of_take heavyB ws (j + 1) (by rw [hs.out, HNN.out, hp]; rfl), if_neg (by simp), if_pos (by simp)])
              clear hp
              go_wp2_with fail
              all_goals first
                | (exfalso; omega)
                | (refine bodyPost_ret (v := .tuple #[.agg #[.slice none 0 0, .slice none 0 0], .int .i64 8]) (by simp [results, Try.results38, go_sem, m0, m1]) rfl ⟨.agg #[.slice none 0 0, .slice none 0 0], by rw [HE.out], by rw [(comb_err HE.out (by omega)).1, (comb_err HE.out (by omega)).2]; exact rdm_nil _, bl_set (bl_set HB.out (by simp) _) (by simp) _⟩)
          · obtain rfl : j = ms.length := by omega
            have hw : ws.any heavyB = false := by
              have h9 := HNN.out
              rwa [List.take_of_length_le (by rw [← HN.out]; omega)] at h9
            have HS := Lib.hid (sums_of hl hm HN.out hw)
            have HB1 := HB
            clear HNN hjt hj m0 m1 m2
            go_wp2_with fail
            refine (rfree_own _).mono ?_
            rintro e w2 ⟨r, rfl, ⟨g1, g2, c1, c2, rfl, ⟨y1, y2, y3, y4, y5⟩, o1, o2, _, _⟩, hb⟩
            have HG2 := Lib.hid (blk_below HG.out hb)
            have HB2 := Lib.hid (bl_call HB.out hb)
            have l0 := blk_lt HG.out
            have l1 := o1.lt
            have l2 := o2.lt
            have HO1 := Lib.hid o1
            have HO2 := Lib.hid o2
            clear o1 o2 hb HG HB HB1
            have d1 : g1 ≠ w.heap.size := by omega
            have d2 : g2 ≠ w.heap.size := by omega
            have hd : CDis w w2.heap.size g1 g2 := ⟨by omega, by omega, d1, d2, by omega, by omega, y3⟩
            have HD := Lib.hid hd
            clear hd
            go_wp2_with fail
            go_loopw [49] (fun i wr => ∃ k : Nat, k ≤ ms.length ∧ i = .int .i64 k ∧ CSt w w2.heap.size g1 g2 c1 c2 (row (fS Prod.fst ms ws) k 0) (row (fS Prod.snd ms ws) k 0) wr) (fun i _ => ms.length - (intOf i).toNat)
            case atStart =>
              refine ⟨0, Nat.zero_le _, rfl, ?_⟩
              rw [row_zero, row_zero]
              exact ⟨bl_alloc HB2.out _, blk_alloc HG2.out _, blk_new _ _, HO1.out.alloc _, HO2.out.alloc _⟩
            case round =>
              obtain ⟨k, hk, rfl, hst⟩ := hrel
              by_cases hlt : k < ms.length
              · have hne : ms ≠ [] := by rintro rfl; simp at hlt
                have hnw : ws ≠ [] := by rintro rfl; have h9 := HN.out; rw [List.length_nil] at h9; omega
                obtain ⟨ad, rfl, hcell⟩ := HCM.out.resolve_left hne
                obtain ⟨ad', rfl, hcell'⟩ := HCW.out.resolve_left hnw
                obtain ⟨b, f, q1, q2, rb, rf⟩ := hcell k hlt
                have hww := hcell' k hlt
                obtain ⟨s1, s2⟩ := HS.out.rows k hlt
                have SB := Lib.hid (HS.out.stepB k · hlt)
                have SF := Lib.hid (HS.out.stepF k · hlt)
                obtain ⟨m, hm⟩ : ∃ m, m = ms.getD k ([], []) := ⟨_, rfl⟩
                obtain ⟨wk, hwk⟩ : ∃ x, x = ws.getD k 0 := ⟨_, rfl⟩
                rw [← hm] at rb rf s1 s2 SB SF
                rw [← hwk] at SB SF hww
                obtain ⟨bs, fs⟩ := m
                simp only at rb rf s1 s2 SB SF
                clear hm hwk hcell hcell' hne hnw
                have l3 := hst.2.2.2.1.lt
                have l4 := hst.2.2.2.2.lt
                have Q1 : wr.cell? (ad.add (k * 2)) = some b := (hst.1.cell (World.block_lt_of_cell? w _ q1)).trans q1
                have Q2 : wr.cell? ⟨(ad.add (k * 2)).block, (ad.add (k * 2)).off + 1, none⟩ = some f := (hst.1.cell (World.block_lt_of_cell? w _ q2)).trans q2
                obtain ⟨A1, k1, rfl, _, x1⟩ := rb
                obtain ⟨A2, k2, rfl, _, x2⟩ := rf
                rw [s1] at Q1
                rw [s2] at Q2
                rw [s1] at x1
                rw [s2] at x2
                obtain ⟨ab, rfl, X1⟩ := x1.resolve_left (by rintro rfl; simp at s1)
                obtain ⟨af, rfl, X2⟩ := x2.resolve_left (by rintro rfl; simp at s2)
                have RX1 := Lib.hid X1
                have RX2 := Lib.hid X2
                have RW := Lib.hid hww
                have HST := Lib.hid hst
                clear X1 X2 x1 x2 q1 q2 hww hst s1 s2
                go_wp2_with fail
                obtain ⟨gk, hgk⟩ : ∃ n, n = wr.heap.size := ⟨_, rfl⟩
                obtain ⟨V, hV⟩ : ∃ V, V = wr.alloc (.cells #[.slice (some ab) 26 k1, .slice (some af) 26 k2] 28) := ⟨_, rfl⟩
                have HV := Lib.hid (show CSt w w2.heap.size g1 g2 c1 c2 (row (fS Prod.fst ms ws) k 0) (row (fS Prod.snd ms ws) k 0) V by rw [hV]; exact HST.out.alloc _)
                have HVK := Lib.hid (show V.heap[gk]? = some (.cells #[.slice (some ab) 26 k1, .slice (some af) 26 k2] 28 (0, 0)) by rw [hV, hgk]; exact blk_new _ _)
                have e1 : gk ≠ g1 := by omega
                have e2 : gk ≠ g2 := by omega
                rw [← hV, ← hgk]
                clear hV hgk Q1 Q2 HST l3 l4
                go_loopw [13] (fun i wx => ∃ j : Nat, j ≤ 26 ∧ i = .int .i64 j ∧ CSt w w2.heap.size g1 g2 c1 c2 (row (fS Prod.fst ms ws) k j) (row (fS Prod.snd ms ws) k j) wx ∧ wx.heap[gk]? = some (.cells #[.slice (some ab) 26 k1, .slice (some af) 26 k2] 28 (0, 0))) (fun i _ => 26 - (intOf i).toNat)
                case atStart => exact ⟨0, Nat.zero_le _, rfl, HV.out, HVK.out⟩
                case round =>
                  obtain ⟨j, hj, rfl, hst, hgk⟩ := hrel
                  by_cases hjt : j < 26
                  · obtain ⟨v1, v2, v3, v4, v5⟩ := SB.out j hjt
                    obtain ⟨t1, t2, t3, t4, t5⟩ := SF.out j hjt
                    have X1 : wr.cell? (ab.add j) = some (.int .i64 (bs.getD j 0)) := (hst.1.cell (World.block_lt_of_cell? w _ (RX1.out j hjt))).trans (RX1.out j hjt)
                    have X2 : wr.cell? (af.add j) = some (.int .i64 (fs.getD j 0)) := (hst.1.cell (World.block_lt_of_cell? w _ (RX2.out j hjt))).trans (RX2.out j hjt)
                    have XW : wr.cell? (ad'.add k) = some (.int .i64 wk) := (hst.1.cell (World.block_lt_of_cell? w _ RW.out)).trans RW.out
                    have n1 := hst.2.2.2.1.cell (i := j) (by rw [row_len]; exact hjt)
                    rw [row_at _ _ _ hjt] at n1
                    have f1 := hst.2.2.2.1.frozen j
                    have p0 := blk_cell hst.2.2.1 0
                    have p1 := blk_cell hst.2.2.1 1
                    have r0 := blk_cell hgk 0
                    have r1 := blk_cell hgk 1
                    simp at p0 p1 r0 r1
                    obtain ⟨x, hx⟩ : ∃ x, x = bs.getD j 0 := ⟨_, rfl⟩
                    obtain ⟨y, hy⟩ : ∃ x, x = fs.getD j 0 := ⟨_, rfl⟩
                    obtain ⟨a, ha⟩ : ∃ a, a = fS Prod.fst ms ws k j := ⟨_, rfl⟩
                    obtain ⟨a2, ha2⟩ : ∃ a, a = fS Prod.snd ms ws k j := ⟨_, rfl⟩
                    rw [← hx] at X1 v1 v4 v5
                    rw [← hy] at X2 t1 t4 t5
                    rw [← ha] at v1 v2 v3 n1
                    rw [← ha2] at t1 t2 t3
                    have HX2 := Lib.hid (show w.cell? (af.add j) = some (.int .i64 y) by rw [hy]; exact RX2.out j hjt)
                    have HA2 := Lib.hid ha2
                    have E1 := Lib.hid v1
                    have E2 := Lib.hid t1
                    have HST := Lib.hid hst
                    have HGK := Lib.hid hgk
                    clear v1 t1 hx hy ha ha2 hst hgk X2
                    go_upto_region 22 with (fail)
                    go_cut [] (fun wc => CSt w w2.heap.size g1 g2 c1 c2 (row (fS Prod.fst ms ws) k (j + 1)) (row (fS Prod.snd ms ws) k j) wc ∧ wc.heap[gk]? = some (.cells #[.slice (some ab) 26 k1, .slice (some af) 26 k2] 28 (0, 0)))
                    case first =>
                      go_region
                      all_goals go_wp2
                      all_goals go_meet
                      all_goals
                        refine ⟨CSt.drew ?_, ?_⟩
                        · rw [row_set _ _ _ hjt, E1.out]
                          exact HST.out.set1 HD.out (by rw [row_len]; exact hjt) _
                        · exact blk_far HGK.out e1 _
                    case rest =>
                      obtain ⟨hst, hgk⟩ := hcut
                      clear n1 f1 p0 p1 r0 r1 X1 XW HST HGK
                      have X2 : wc.cell? (af.add j) = some (.int .i64 y) := (hst.1.cell (World.block_lt_of_cell? w _ HX2.out)).trans HX2.out
                      have XW : wc.cell? (ad'.add k) = some (.int .i64 wk) := (hst.1.cell (World.block_lt_of_cell? w _ RW.out)).trans RW.out
                      have n1 := hst.2.2.2.2.cell (i := j) (by rw [row_len]; exact hjt)
                      rw [row_at _ _ _ hjt, ← HA2.out] at n1
                      have f1 := hst.2.2.2.2.frozen j
                      have p0 := blk_cell hst.2.2.1 0
                      have p1 := blk_cell hst.2.2.1 1
                      have r0 := blk_cell hgk 0
                      have r1 := blk_cell hgk 1
                      simp at p0 p1 r0 r1
                      have HST := Lib.hid hst
                      have HGK := Lib.hid hgk
                      clear hst hgk
                      go_wp2
                      go_region
                      all_goals go_wp2
                      all_goals
                        refine ⟨⟨j + 1, by omega, by go_num, CSt.drew ?_, ?_⟩, ?_⟩
                        · rw [row_set (fS Prod.snd ms ws) k j hjt, E2.out]
                          exact HST.out.set2 HD.out (by rw [row_len]; exact hjt) _
                        · exact blk_far HGK.out e2 _
                        · simp [intOf]; omega
                  · obtain rfl : j = 26 := by omega
                    have HST := Lib.hid hst
                    clear hst hgk
                    go_wp2_with fail
                    refine ⟨⟨k + 1, by omega, by go_num, ?_⟩, by simp [intOf]; omega⟩
                    rw [← row_next, ← row_next]
                    exact HST.out
              · obtain rfl : k = ms.length := by omega
                have hst' : CSt w w2.heap.size g1 g2 c1 c2 (sumB ms ws) (sumF ms ws) wr := hst
                have zB : (sumB ms ws).length = 26 := row_len _ _ _
                have zF : (sumF ms ws).length = 26 := row_len _ _ _
                have ZB := Lib.hid zB
                have ZF := Lib.hid zF
                have p0 := blk_cell hst'.2.2.1 0
                have p1 := blk_cell hst'.2.2.1 1
                have m0 := blk_cell hst'.2.1 0
                have m1 := blk_cell hst'.2.1 1
                have m2 := blk_frozen hst'.2.1
                simp at p0 p1 m0 m1
                have HST := Lib.hid hst'
                clear hst hst' hlt
                obtain ⟨X, hX⟩ : ∃ X, X = wr := ⟨_, rfl⟩
                rw [← hX] at HST p0 p1 m0 m1 m2 ⊢
                clear hX
                have lw0 := blk_lt HST.out.2.1
                have RM := Lib.hid (show RdM X (.agg #[.slice (some ⟨g1, 0, none⟩) 26 c1, .slice (some ⟨g2, 0, none⟩) 26 c2]) (sumB ms ws) (sumF ms ws) from
                  ⟨_, _, rfl, HST.out.2.2.2.1.rd ZB.out.symm (by rw [ZB.out]; exact y4) (by rw [ZB.out]; omega), HST.out.2.2.2.2.rd ZF.out.symm (by rw [ZF.out]; exact y5) (by rw [ZF.out]; omega)⟩)
                go_wp2_with fail
                go_loop [14] (fun i => PkRelC (sumB ms ws) (sumF ms ws) i) (fun i => 26 - (intOf i).toNat)
                case atStart => exact ⟨0, Nat.zero_le _, rfl, fun c hc => by omega⟩
                case round =>
                  obtain ⟨j, hj, rfl, hn⟩ := hrel
                  have HNN := Lib.hid hn
                  clear hn
                  by_cases hjt : j < 26
                  · have n1 := HST.out.2.2.2.1.cell (i := j) (by rw [ZB.out]; exact hjt)
                    have n2 := HST.out.2.2.2.2.cell (i := j) (by rw [ZF.out]; exact hjt)
                    obtain ⟨x, hx⟩ : ∃ x, x = (sumB ms ws).getD j 0 := ⟨_, rfl⟩
                    obtain ⟨y, hy⟩ : ∃ x, x = (sumF ms ws).getD j 0 := ⟨_, rfl⟩
                    rw [← hx] at n1
                    rw [← hy] at n2
                    have HX := Lib.hid hx
                    have HY := Lib.hid hy
                    clear hx hy
                    by_cases hp : heavyB x = false ∧ heavyB y = false
                    · obtain ⟨hpx, hpy⟩ := hp
                      obtain ⟨x1, x2⟩ := light_of hpx
                      obtain ⟨x3, x4⟩ := light_of hpy
                      have HP := Lib.hid hpx
                      have HQ := Lib.hid hpy
                      clear hpx hpy
                      go_wp2_with fail
                      all_goals first
                        | (exfalso; omega)
                        | (refine ⟨⟨j + 1, by omega, by go_num, fun c hc => by
                             by_cases he : c = j
                             · subst he; rw [← HX.out, ← HY.out]; exact ⟨HP.out, HQ.out⟩
                             · exact HNN.out c (by omega)⟩, ?_⟩
                           simp [intOf]; omega)
                    · have hcat : (sumB ms ws ++ sumF ms ws).any heavyB = true := by
                        refine cat_heavy_yes ZB.out ZF.out hjt ?_
                        rw [← HX.out, ← HY.out]
                        cases h8 : heavyB x
                        · cases h9 : heavyB y
                          · exact absurd ⟨h8, h9⟩ hp
                          · exact .inr rfl
                        · exact .inl rfl
                      have hxy : (x < -1000 ∨ 1000 < x) ∨ (y < -1000 ∨ 1000 < y) := by
                        cases h8 : heavyB x
                        · cases h9 : heavyB y
                          · exact absurd ⟨h8, h9⟩ hp
                          · exact .inr (heavy_of h9)
                        · exact .inl (heavy_of h8)
                      have HE := Lib.hid (show combE ms ws = 9 by
                        unfold combE
                        rw [hm, hw, if_neg (by simp), if_neg (by simp [HN.out]), if_pos hcat])
                      clear hcat hp
                      rcases hxy with (hxy | hxy) | (hxy | hxy)
                      all_goals go_wp2_with fail
                      all_goals first
                        | (exfalso; omega)
                        | (refine bodyPost_ret (v := .tuple #[.agg #[.slice none 0 0, .slice none 0 0], .int .i64 9]) (by simp [results, Try.results38, go_sem, m0, m1]) rfl ⟨.agg #[.slice none 0 0, .slice none 0 0], by rw [HE.out], by rw [(comb_err HE.out (by omega)).1, (comb_err HE.out (by omega)).2]; exact rdm_nil _, bl_set (bl_set HST.out.1 (by simp) _) (by simp) _⟩)
                  · have HW := Lib.hid (cat_heavy ZB.out ZF.out (fun c hc => HNN.out c (by omega)))
                    go_wp2_with fail
                    refine (rvalid_any _ (sumB ms ws) (sumF ms ws) _ RM.out).mono ?_
                    cases hv : validM (sumB ms ws) (sumF ms ws)
                    · have HE := Lib.hid (show combE ms ws = 10 by
                        unfold combE
                        rw [hm, hw, if_neg (by simp), if_neg (by simp [HN.out]), HW.out, if_neg (by simp), if_pos hv])
                      rintro e w4 ⟨rfl, hb4⟩
                      have G4 := Lib.hid (blk_below HST.out.2.1 hb4)
                      have HB4 := Lib.hid (bl_call HST.out.1 hb4)
                      clear m0 m1 m2 hb4
                      have m0 := blk_cell G4.out 0
                      have m1 := blk_cell G4.out 1
                      have m2 := blk_frozen G4.out
                      simp at m0 m1
                      go_wp2_with fail
                      refine bodyPost_ret (v := .tuple #[.agg #[.slice none 0 0, .slice none 0 0], .int .i64 10]) (by simp [results, Try.results38, go_sem, m0, m1]) rfl ⟨.agg #[.slice none 0 0, .slice none 0 0], by rw [HE.out], by rw [(comb_err HE.out (by omega)).1, (comb_err HE.out (by omega)).2]; exact rdm_nil _, bl_set (bl_set HB4.out (by simp) _) (by simp) _⟩
                    · have HE := Lib.hid (show combE ms ws = 0 by
                        unfold combE
                        rw [hm, hw, if_neg (by simp), if_neg (by simp [HN.out]), HW.out, if_neg (by simp), hv, if_neg (by simp)])
                      rintro e w4 ⟨rfl, hb4⟩
                      have G4 := Lib.hid (blk_below HST.out.2.1 hb4)
                      have GM4 := Lib.hid (blk_below HST.out.2.2.1 hb4)
                      have HB4 := Lib.hid (bl_call HST.out.1 hb4)
                      have O1 := Lib.hid (HST.out.2.2.2.1.below hb4)
                      have O2 := Lib.hid (HST.out.2.2.2.2.below hb4)
                      clear m0 m1 m2 hb4 p0 p1
                      have m0 := blk_cell G4.out 0
                      have m1 := blk_cell G4.out 1
                      have m2 := blk_frozen G4.out
                      have p0 := blk_cell GM4.out 0
                      have p1 := blk_cell GM4.out 1
                      simp at m0 m1 p0 p1
                      go_wp2_with fail
                      refine bodyPost_ret (v := .tuple #[.agg #[.slice (some ⟨g1, 0, none⟩) 26 c1, .slice (some ⟨g2, 0, none⟩) 26 c2], .int .i64 0]) (by simp [results, Try.results38, go_sem, m0, m1]) rfl ⟨_, by rw [HE.out], ?_, bl_set (bl_set HB4.out (by simp) _) (by simp) _⟩
                      unfold combB combF
                      rw [HE.out, if_pos rfl, if_pos rfl]
                      exact ⟨_, _, rfl, ((O1.out.far d1 _).far d1 _).rd ZB.out.symm (by rw [ZB.out]; exact y4) (by rw [ZB.out]; omega), ((O2.out.far d2 _).far d2 _).rd ZF.out.symm (by rw [ZF.out]; exact y5) (by rw [ZF.out]; omega)⟩
      · have HE := Lib.hid (show combE ms ws = 8 by unfold combE; rw [hm, if_neg (by simp), if_pos (.inl hn)])
        have hn2 : ((ms.length : Int) != (ws.length : Int)) = true := by simp; omega
        go_wp2_with fail
        all_goals first
          | (exfalso; omega)
          | (refine bodyPost_ret (v := .tuple #[.agg #[.slice none 0 0, .slice none 0 0], .int .i64 8]) (by simp [results, Try.results38, go_sem, m0, m1]) rfl ⟨.agg #[.slice none 0 0, .slice none 0 0], by rw [HE.out], by rw [(comb_err HE.out (by omega)).1, (comb_err HE.out (by omega)).2]; exact rdm_nil _, bl_set (bl_set HB.out (by simp) _) (by simp) _⟩)
end Go.Proofs.Ytbfgnpbkgegegaa
