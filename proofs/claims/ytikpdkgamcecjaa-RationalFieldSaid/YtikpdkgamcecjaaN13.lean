/- Walks of the reference: natAdd. -/
import Derived.Test.YtikpdkgamcecjaaN12
namespace Go.Proofs.Ytikpdkgamcecjaa
open Go.RowKit
set_option linter.unusedSimpArgs false
set_option linter.unusedVariables false

/-- What holds in the loop of natAdd. -/
def PS (xs ys zs : List Int) (c : Int) (i : Nat) : Prop := zs.length = i ∧ Lb zs ∧ 0 ≤ c ∧ c ≤ 1 ∧ vs zs i + c * 1000000000 ^ i = vs xs i + vs ys i
theorem PS.next {xs ys zs : List Int} {c s : Int} {i : Nat} (h : PS xs ys zs c i) (hs : s = c + xs.getD i 0 + ys.getD i 0) (lx : Lb xs) (ly : Lb ys) : PS xs ys (zs ++ [s % 1000000000]) (s / 1000000000) (i + 1) := by
  obtain ⟨a1, a2, a3, a4, a5⟩ := h
  have x1 := lx.all i
  have y1 := ly.all i
  refine ⟨by simp [a1], lb_snoc2 a2 (by omega) (by omega), by omega, by omega, ?_⟩
  have e1 : vs (zs ++ [s % 1000000000]) (i + 1) = vs zs i + s % 1000000000 * 1000000000 ^ i := by
    show vs (zs ++ [s % 1000000000]) i + (zs ++ [s % 1000000000]).getD i 0 * 1000000000 ^ i = _
    rw [vs_snoc _ _ _ (by omega), getD_snoc, if_neg (by omega), if_pos a1.symm]
  rw [e1]
  show _ = (vs xs i + xs.getD i 0 * 1000000000 ^ i) + (vs ys i + ys.getD i 0 * 1000000000 ^ i)
  have e2 : (1000000000 : Int) ^ (i + 1) = 1000000000 * 1000000000 ^ i := by rw [Int.pow_succ, Int.mul_comm]
  obtain ⟨P, hP⟩ : ∃ P, P = (1000000000 : Int) ^ i := ⟨_, rfl⟩
  rw [← hP] at e2 a5 ⊢
  rw [e2]
  have e3 : s % 1000000000 * P + s / 1000000000 * (1000000000 * P) = s * P := by
    rw [← Int.mul_assoc, ← Int.add_mul]
    congr 1; omega
  have e4 : s * P = c * P + xs.getD i 0 * P + ys.getD i 0 * P := by rw [hs, Int.add_mul, Int.add_mul]
  omega
theorem limbs_from {zs : List Int} (lz : Lb zs) (h : zs = [] ∨ (1000000000 : Int) ^ (zs.length - 1) ≤ val zs) : limbs (val zs).toNat = zs := by
  refine limbs_of lz ?_
  rcases h with h | h
  · exact .inl h
  · by_cases h0 : zs = []
    · exact .inl h0
    · right
      intro h1
      have hl : 0 < zs.length := List.length_pos_iff.2 h0
      have e : vs zs zs.length = vs zs (zs.length - 1) := by
        have e2 : zs.length = (zs.length - 1) + 1 := by omega
        rw [e2]
        show vs zs (zs.length - 1) + zs.getD (zs.length - 1) 0 * _ = _
        rw [h1]; simp
      have h2 := (vs_lt lz (zs.length - 1)).2
      rw [← e, vs_val] at h2
      omega
/-- The further length: the loop goes at most one limb past both. -/
def PL (a b : Nat) (i : Nat) : Prop := i ≤ max (limbs a).length (limbs b).length ∨ (i = max (limbs a).length (limbs b).length + 1 ∧ (1000000000 : Int) ^ (max (limbs a).length (limbs b).length) ≤ a + b)
theorem vs_limbs {a i : Nat} (h : (limbs a).length ≤ i) : vs (limbs a) i = a := by rw [vs_ge _ _ h, val_limbs]
theorem PL.next {a b i : Nat} {zs : List Int} {c : Int} (h : PL a b i) (k : PS (limbs a) (limbs b) zs c i) (hc : i < (limbs a).length ∨ i < (limbs b).length ∨ 0 < c) : PL a b (i + 1) := by
  obtain ⟨a1, a2, a3, a4, a5⟩ := k
  obtain ⟨m, hm⟩ : ∃ m, m = max (limbs a).length (limbs b).length := ⟨_, rfl⟩
  unfold PL at h ⊢
  rw [← hm] at h ⊢
  have hma : (limbs a).length ≤ m := by rw [hm]; exact Nat.le_max_left _ _
  have hmb : (limbs b).length ≤ m := by rw [hm]; exact Nat.le_max_right _ _
  have hmm : m = (limbs a).length ∨ m = (limbs b).length := by rw [hm]; omega
  clear hm
  by_cases h1 : i < m
  · exact .inl (by omega)
  · have h2 : (limbs a).length ≤ i := by omega
    have h3 : (limbs b).length ≤ i := by omega
    rw [vs_limbs h2, vs_limbs h3] at a5
    have h4 : 0 < c := by omega
    obtain rfl : c = 1 := by omega
    have h5 := (vs_lt a2 i).1
    rcases h with h | ⟨h, h6⟩
    · obtain rfl : i = m := by omega
      exact .inr ⟨rfl, by omega⟩
    · exfalso
      subst h
      have e2 : (1000000000 : Int) ^ (m + 1) = 1000000000 * 1000000000 ^ m := by rw [Int.pow_succ, Int.mul_comm]
      have b1 := limbs_lt a
      have b2 := limbs_lt b
      have b3 : (1000000000 : Int) ^ (limbs a).length ≤ 1000000000 ^ m := pow_le' (by omega)
      have b4 : (1000000000 : Int) ^ (limbs b).length ≤ 1000000000 ^ m := pow_le' (by omega)
      have b5 := pow_pos' m
      omega
theorem na_end {a b i : Nat} {zs : List Int} (h : PL a b i) (k : PS (limbs a) (limbs b) zs 0 i) (h2 : (limbs a).length ≤ i) (h3 : (limbs b).length ≤ i) : limbs (a + b) = zs := by
  obtain ⟨a1, a2, a3, a4, a5⟩ := k
  rw [vs_limbs h2, vs_limbs h3] at a5
  have hv : val zs = a + b := by rw [← vs_val, a1]; omega
  have e : a + b = (val zs).toNat := by rw [hv]; omega
  rw [e]
  refine limbs_from a2 ?_
  rw [hv]
  by_cases h0 : i = 0
  · left; exact List.eq_nil_of_length_eq_zero (by omega)
  · right
    rw [a1]
    unfold PL at h
    rcases h with h | ⟨h, h6⟩
    · by_cases hm : (limbs a).length = i
      · have ha : a ≠ 0 := by rintro rfl; simp [limbs_zero] at hm; omega
        have := limbs_ge ha
        rw [hm] at this; omega
      · have hm2 : (limbs b).length = i := by omega
        have hb : b ≠ 0 := by rintro rfl; simp [limbs_zero] at hm2; omega
        have := limbs_ge hb
        rw [hm2] at this; omega
    · rw [h]; exact h6

set_option maxRecDepth 100000 in
set_option maxHeartbeats 8000000 in
theorem radd_any (ok : Nat → Prop) (v u : Value) (a b : Nat) (w : World) (hok : ∀ b, w.heap.size ≤ b → ok b) (hx : Rd .u32 w v (limbs a)) (hy : Rd .u32 w u (limbs b)) (na : (limbs a).length ≤ 16777216) (nb : (limbs b).length ≤ 16777216) :
    Calls Try.prog 71 #[v, u] w fun e w' => ∃ r, e = .returned r ∧ Rdf .u32 w' ok r (limbs (a + b)) ∧ Below w.heap.size w w' := by
  obtain ⟨i0, hi0, hz0, hz1, hz2⟩ := info_parts info_u32
  have HPL := Lib.hid (fun i zs c (h : PL a b i) (k : PS (limbs a) (limbs b) zs c i) => PL.next (a := a) (b := b) h k)
  have HPE := Lib.hid (fun i zs (h : PL a b i) (k : PS (limbs a) (limbs b) zs 0 i) => na_end (a := a) (b := b) h k)
  have HP0 := Lib.hid (show PL a b 0 from .inl (Nat.zero_le _))
  obtain ⟨PP, hPP⟩ : ∃ P, P = PL a b := ⟨_, rfl⟩
  rw [← hPP] at HPL HPE HP0
  have LX := Lib.hid (lb_limbs a)
  have LY := Lib.hid (lb_limbs b)
  have HB0 := Lib.hid (show ∀ i, PP i → i ≤ 16777217 from fun i h => by rw [hPP] at h; rcases h with h | ⟨h, _⟩ <;> omega)
  obtain ⟨xs, hxs⟩ : ∃ xs, xs = limbs a := ⟨_, rfl⟩
  obtain ⟨ys, hys⟩ : ∃ ys, ys = limbs b := ⟨_, rfl⟩
  rw [← hxs] at hx LX HPL HPE na
  rw [← hys] at hy LY HPL HPE nb
  clear hPP hxs hys
  have HOK := Lib.hid hok
  obtain ⟨A, c1, rfl, ⟨hl1, _⟩, hxc⟩ := hx
  obtain ⟨A', c2, rfl, ⟨hl2, _⟩, hyc⟩ := hy
  have HC := Lib.hid hxc
  have HD := Lib.hid hyc
  clear hxc hyc hok
  go_enter Try.func71, Try.ntmps71
  go_wp2
  go_loopw [5, 6, 7] (fun v c i wr => ∃ (k : Nat) (c0 : Int) (zs : List Int), PP k ∧ i = .int .i64 k ∧ c = .int .u32 c0 ∧ PS xs ys zs c0 k ∧ wr.ownsRow w.heap.size 43 1 v zs.length (zs.map (Value.int .u32)) ∧ Below w.heap.size w wr) (fun _ c i _ => 2 * (max xs.length ys.length + 1 - (intOf i).toNat) + (intOf c).toNat)
  case atStart => exact ⟨0, 0, [], HP0.out, rfl, rfl, ⟨rfl, lb_nil, by omega, by omega, by simp [vs]⟩, own_nilu _ _, Below.refl _ _⟩
  case round =>
    obtain ⟨k, c, zs, hk, rfl, rfl, hns, ho, hb⟩ := hrel
    have HN := Lib.hid hns
    have HO := Lib.hid ho
    have HB := Lib.hid hb
    have HKP := Lib.hid hk
    have hyl : zs.length = k := hns.1
    have hc0 : 0 ≤ c := hns.2.2.1
    have hc4 : c ≤ 1 := hns.2.2.2.1
    have HYL := Lib.hid hyl
    have hkb : k ≤ 16777217 := HB0.out k hk
    have hyl2 : zs.length ≤ 16777217 := by omega
    have hsz := hb.size
    clear hns ho hyl hk
    have HNX := Lib.hid (fun (s : Int) (hs : s = c + xs.getD k 0 + ys.getD k 0) => HN.out.next hs LX.out LY.out)
    have HQX := Lib.hid (fun hc => HPL.out k zs c HKP.out HN.out hc)
    clear hb
    by_cases hx : k < xs.length
    · by_cases hy : k < ys.length
      · have hnex : xs ≠ [] := by rintro rfl; simp at hx
        obtain ⟨ad, rfl, hcellx⟩ := HC.out.resolve_left hnex
        have h1x : wr.cell? (ad.add k) = some (.int .u32 (xs.getD k 0)) := (HB.out.cell (World.block_lt_of_cell? w _ (hcellx k hx))).trans (hcellx k hx)
        obtain ⟨b0x, b1x⟩ := LX.out k hx
        obtain ⟨x, ex⟩ : ∃ z, z = xs.getD k 0 := ⟨_, rfl⟩
        rw [← ex] at h1x b0x b1x HNX
        have Ex := Lib.hid ex
        clear hcellx hnex ex
        have hney : ys ≠ [] := by rintro rfl; simp at hy
        obtain ⟨bd, rfl, hcelly⟩ := HD.out.resolve_left hney
        have h1y : wr.cell? (bd.add k) = some (.int .u32 (ys.getD k 0)) := (HB.out.cell (World.block_lt_of_cell? w _ (hcelly k hy))).trans (hcelly k hy)
        obtain ⟨b0y, b1y⟩ := LY.out k hy
        obtain ⟨y, ey⟩ : ∃ z, z = ys.getD k 0 := ⟨_, rfl⟩
        rw [← ey] at h1y b0y b1y HNX
        have Ey := Lib.hid ey
        clear hcelly hney ey
        go_wp2_with (first
          | (at_builtin
             refine wpList_append_any _ rfl (.tmp 48) (.tmp 51) _ rfl w.heap.size 43 i0 _ 1 4 Try.underlying22 hi0 hz0 hz1 hz2 rfl (by omega) _ zs.length _ rfl
               (HO.out.alloc _) (wr.heap.size + 1) (some ⟨wr.heap.size, 0, none⟩) 1 1 _ rfl one_read (by intro u hu; simp at hu; subst hu; rfl) (by simp only [maxLen]; omega) (by omega) (by simp; omega) ?_
             intro v1 w1 hown1 hg1 hat1
             have hbw1 : Below w.heap.size w w1 := (bl_alloc HB.out _).grown hg1 (by simp; omega) (fun g hg => (HO.out.lt g hg).1)))
        go_roundw
        case measure => simp [intOf]; omega
        case rel =>
          refine ⟨k + 1, (c + x + y) / 1000000000, zs ++ [(c + x + y) % 1000000000], HQX.out (by omega), by go_num, rfl, HNX.out _ (by rfl), ?_, hbw1⟩
          simpa using hown1
      · have hnex : xs ≠ [] := by rintro rfl; simp at hx
        obtain ⟨ad, rfl, hcellx⟩ := HC.out.resolve_left hnex
        have h1x : wr.cell? (ad.add k) = some (.int .u32 (xs.getD k 0)) := (HB.out.cell (World.block_lt_of_cell? w _ (hcellx k hx))).trans (hcellx k hx)
        obtain ⟨b0x, b1x⟩ := LX.out k hx
        obtain ⟨x, ex⟩ : ∃ z, z = xs.getD k 0 := ⟨_, rfl⟩
        rw [← ex] at h1x b0x b1x HNX
        have Ex := Lib.hid ex
        clear hcellx hnex ex
        have zy : ys.getD k 0 = 0 := getD_of_ge (by omega)
        rw [zy] at HNX
        clear zy
        go_wp2_with (first
          | (at_builtin
             refine wpList_append_any _ rfl (.tmp 48) (.tmp 51) _ rfl w.heap.size 43 i0 _ 1 4 Try.underlying22 hi0 hz0 hz1 hz2 rfl (by omega) _ zs.length _ rfl
               (HO.out.alloc _) (wr.heap.size + 1) (some ⟨wr.heap.size, 0, none⟩) 1 1 _ rfl one_read (by intro u hu; simp at hu; subst hu; rfl) (by simp only [maxLen]; omega) (by omega) (by simp; omega) ?_
             intro v1 w1 hown1 hg1 hat1
             have hbw1 : Below w.heap.size w w1 := (bl_alloc HB.out _).grown hg1 (by simp; omega) (fun g hg => (HO.out.lt g hg).1)))
        go_roundw
        case measure => simp [intOf]; omega
        case rel =>
          refine ⟨k + 1, (c + x) / 1000000000, zs ++ [(c + x) % 1000000000], HQX.out (by omega), by go_num, rfl, HNX.out _ (by omega), ?_, hbw1⟩
          simpa using hown1
    · by_cases hy : k < ys.length
      · have hney : ys ≠ [] := by rintro rfl; simp at hy
        obtain ⟨bd, rfl, hcelly⟩ := HD.out.resolve_left hney
        have h1y : wr.cell? (bd.add k) = some (.int .u32 (ys.getD k 0)) := (HB.out.cell (World.block_lt_of_cell? w _ (hcelly k hy))).trans (hcelly k hy)
        obtain ⟨b0y, b1y⟩ := LY.out k hy
        obtain ⟨y, ey⟩ : ∃ z, z = ys.getD k 0 := ⟨_, rfl⟩
        rw [← ey] at h1y b0y b1y HNX
        have Ey := Lib.hid ey
        clear hcelly hney ey
        have zx : xs.getD k 0 = 0 := getD_of_ge (by omega)
        rw [zx] at HNX
        clear zx
        go_wp2_with (first
          | (at_builtin
             refine wpList_append_any _ rfl (.tmp 48) (.tmp 51) _ rfl w.heap.size 43 i0 _ 1 4 Try.underlying22 hi0 hz0 hz1 hz2 rfl (by omega) _ zs.length _ rfl
               (HO.out.alloc _) (wr.heap.size + 1) (some ⟨wr.heap.size, 0, none⟩) 1 1 _ rfl one_read (by intro u hu; simp at hu; subst hu; rfl) (by simp only [maxLen]; omega) (by omega) (by simp; omega) ?_
             intro v1 w1 hown1 hg1 hat1
             have hbw1 : Below w.heap.size w w1 := (bl_alloc HB.out _).grown hg1 (by simp; omega) (fun g hg => (HO.out.lt g hg).1)))
        go_roundw
        case measure => simp [intOf]; omega
        case rel =>
          refine ⟨k + 1, (c + y) / 1000000000, zs ++ [(c + y) % 1000000000], HQX.out (by omega), by go_num, rfl, HNX.out _ (by omega), ?_, hbw1⟩
          simpa using hown1
      · have zx : xs.getD k 0 = 0 := getD_of_ge (by omega)
        rw [zx] at HNX
        clear zx
        have zy : ys.getD k 0 = 0 := getD_of_ge (by omega)
        rw [zy] at HNX
        clear zy
        by_cases h0 : c = 0
        · subst h0
          have HE := Lib.hid (HPE.out k zs HKP.out HN.out (by omega) (by omega))
          go_wp2
          go_ret
          refine ⟨_, rfl, ?_, HB.out⟩
          rw [HE.out]
          exact own_rdf HO.out HOK.out
        · have hp : 0 < c := by omega
          clear h0
          go_wp2_with (first
            | (at_builtin
               refine wpList_append_any _ rfl (.tmp 48) (.tmp 51) _ rfl w.heap.size 43 i0 _ 1 4 Try.underlying22 hi0 hz0 hz1 hz2 rfl (by omega) _ zs.length _ rfl
                 (HO.out.alloc _) (wr.heap.size + 1) (some ⟨wr.heap.size, 0, none⟩) 1 1 _ rfl one_read (by intro u hu; simp at hu; subst hu; rfl) (by simp only [maxLen]; omega) (by omega) (by simp; omega) ?_
               intro v1 w1 hown1 hg1 hat1
               have hbw1 : Below w.heap.size w w1 := (bl_alloc HB.out _).grown hg1 (by simp; omega) (fun g hg => (HO.out.lt g hg).1)))
          go_roundw
          case measure => simp [intOf]; omega
          case rel =>
            refine ⟨k + 1, (c) / 1000000000, zs ++ [(c) % 1000000000], HQX.out (by omega), by go_num, rfl, HNX.out _ (by omega), ?_, hbw1⟩
            simpa using hown1
end Go.Proofs.Ytikpdkgamcecjaa
