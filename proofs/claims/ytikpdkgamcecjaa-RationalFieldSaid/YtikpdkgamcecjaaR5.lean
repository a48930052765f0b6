/- Walks: add, sub. -/
import Derived.Test.YtikpdkgamcecjaaR4
namespace Go.Proofs.Ytikpdkgamcecjaa
open Go.RowKit
set_option linter.unusedSimpArgs false
set_option linter.unusedVariables false

/-- What holds in the loop of add. -/
def AS (a b zs : List Int) (c : Int) (i : Nat) : Prop :=
  zs.length = a.length + 1 ∧ vs zs i + c * 1000000000 ^ i = vs a i + vs b i ∧ (∀ j, j < i → 0 ≤ zs.getD j 0 ∧ zs.getD j 0 < 1000000000) ∧ 0 ≤ c ∧ c ≤ 1
theorem as_step {a b zs : List Int} {c s t : Int} {i : Nat} (h : AS a b zs c i) (hi : i < a.length) (hs : s + t * 1000000000 = a.getD i 0 + c + b.getD i 0) (h0 : 0 ≤ s ∧ s < 1000000000) (h1 : 0 ≤ t ∧ t ≤ 1) :
    AS a b (zs.set i s) t (i + 1) := by
  obtain ⟨e1, e2, e3, e4, e5⟩ := h
  refine ⟨by simpa using e1, ?_, fun j hj => ?_, h1.1, h1.2⟩
  · show vs (zs.set i _) i + (zs.set i _).getD i 0 * 1000000000 ^ i + _ = (vs a i + a.getD i 0 * 1000000000 ^ i) + (vs b i + b.getD i 0 * 1000000000 ^ i)
    rw [vs_set _ _ _ _ (Nat.le_refl _), getD_set_self (by omega), Int.pow_succ]
    grind
  · by_cases e : j = i
    · subst e; rw [getD_set_self (by omega)]; exact h0
    · rw [getD_set_ne e]; exact e3 j (by omega)
theorem as_end {a b zs : List Int} {c : Int} (h : AS a b zs c a.length) (hb : b.length ≤ a.length) : (zs.set a.length c).length = a.length + 1 ∧ Lb (zs.set a.length c) ∧ val (zs.set a.length c) = val a + val b := by
  obtain ⟨e1, e2, e3, e4, e5⟩ := h
  have el : (zs.set a.length c).length = a.length + 1 := by simpa using e1
  refine ⟨el, fun j hj => ?_, ?_⟩
  · by_cases e : j = a.length
    · subst e; rw [getD_set_self (by omega)]; omega
    · rw [getD_set_ne e]
      simp at hj
      exact e3 j (by omega)
  · rw [← vs_val, el, ← vs_val a, ← vs_ge b a.length hb, ← e2]
    show vs (zs.set _ c) a.length + (zs.set _ c).getD a.length 0 * 1000000000 ^ a.length = _
    rw [vs_set _ _ _ _ (Nat.le_refl _), getD_set_self (by omega)]
theorem limb_ok {xs : List Int} (h : Lb xs) (i : Nat) : 0 ≤ xs.getD i 0 ∧ xs.getD i 0 < 1000000000 := h.all i

set_option maxHeartbeats 4000000 in
theorem add_any (ok : Nat → Prop) (v u : Value) (xs ys : List Int) (w : World) (hok : ∀ b, w.heap.size ≤ b → ok b) (hx : Rd .u32 w v xs) (hy : Rd .u32 w u ys) (lx : Lb xs) (ly : Lb ys) (nx : xs.length ≤ 16777216) (ny : ys.length ≤ 16777216) :
    Calls Try.prog 69 #[v, u] w fun e w' => ∃ r, e = .returned r ∧ Rdf .u32 w' ok r (limbs (val xs + val ys).toNat) ∧ Below w.heap.size w w' := by
  have HX := Lib.hid hx
  have HY := Lib.hid hy
  have LX := Lib.hid lx
  have LY := Lib.hid ly
  have HOK := Lib.hid hok
  obtain ⟨A, c1, rfl, ⟨l1, l2⟩, _⟩ := hx
  obtain ⟨A2, c2, rfl, ⟨l3, l4⟩, _⟩ := hy
  clear lx ly hok
  by_cases hsw : xs.length < ys.length
  · have hle : xs.length ≤ ys.length := by omega
    have hmk := make_u32 (ys.length + 1) (by omega)
    simp only [Int.natCast_add, Int.natCast_one] at hmk
    go_enter Try.func69, Try.ntmps69
    go_wp2
    go_loopw [6, 7, 8, 22] (fun cc s7 s8 u wr => ∃ (i : Nat) (c : Int) (zs : List Int), i ≤ ys.length ∧ u = .int .i64 i ∧ cc = .int .u32 c ∧ ArrU wr w.heap.size zs ∧ AS ys xs zs c i ∧ Below w.heap.size w wr) (fun _ _ _ u _ => ys.length - (intOf u).toNat)
    case atStart => exact ⟨0, 0, _, Nat.zero_le _, rfl, rfl, zeros_arr _ _, ⟨by simp, by simp [vs], fun j hj => by omega, by omega, by omega⟩, bl_alloc (Below.refl _ _) _⟩
    case round =>
      obtain ⟨i, c, zs, hi, rfl, rfl, ha, hms, hb⟩ := hrel
      have HA := Lib.hid ha
      have HMS := Lib.hid hms
      obtain ⟨q1, q2, q3, q4, q5⟩ := hms
      clear ha q2 q3
      by_cases hlt : i < ys.length
      · obtain ⟨ad, rfl, _, hc⟩ := HY.out.at_ hlt
        obtain ⟨x0, x1⟩ := limb_ok LY.out i
        obtain ⟨y0, y1⟩ := limb_ok LX.out i
        have hstep := fun s t => as_step (s := s) (t := t) HMS.out hlt
        obtain ⟨x, hx⟩ : ∃ x, x = ys.getD i 0 := ⟨_, rfl⟩
        obtain ⟨y, hy⟩ : ∃ y, y = xs.getD i 0 := ⟨_, rfl⟩
        have hz := HA.out.cell (show i < zs.length by omega)
        have hf := HA.out.free i
        have hc' : wr.cell? (ad.add i) = some (.int .u32 x) := by rw [hx]; exact (hb.cell (World.block_lt_of_cell? w _ hc)).trans hc
        rw [← hx] at x0 x1 hstep
        rw [← hy] at y0 y1 hstep
        have HS := Lib.hid hstep
        clear hc hx hstep
        by_cases hyl : i < xs.length
        · obtain ⟨ad2, rfl, _, hc2⟩ := HX.out.at_ hyl
          have hc2' : wr.cell? (ad2.add i) = some (.int .u32 y) := by rw [hy]; exact (hb.cell (World.block_lt_of_cell? w _ hc2)).trans hc2
          clear hc2 hy
          by_cases hge : 1000000000 ≤ x + c + y
          · have H2 := Lib.hid (HS.out (x + c + y - 1000000000) 1 (by omega) (by omega) (by omega))
            go_wp2
            go_roundw
            case measure => simp [intOf]; omega
            case rel => exact ⟨i + 1, _, _, by omega, by go_num, rfl, HA.out.set i _, H2.out, bl_set hb (by simp) _⟩
          · have H2 := Lib.hid (HS.out (x + c + y) 0 (by omega) (by omega) (by omega))
            go_wp2
            go_roundw
            case measure => simp [intOf]; omega
            case rel => exact ⟨i + 1, _, _, by omega, by go_num, rfl, HA.out.set i _, H2.out, bl_set hb (by simp) _⟩
        · have hy0 : y = 0 := by rw [hy]; exact getD_of_ge (by omega)
          by_cases hge : 1000000000 ≤ x + c
          · have H2 := Lib.hid (HS.out (x + c - 1000000000) 1 (by omega) (by omega) (by omega))
            clear hy hy0
            go_wp2
            go_roundw
            case measure => simp [intOf]; omega
            case rel => exact ⟨i + 1, _, _, by omega, by go_num, rfl, HA.out.set i _, H2.out, bl_set hb (by simp) _⟩
          · have H2 := Lib.hid (HS.out (x + c) 0 (by omega) (by omega) (by omega))
            clear hy hy0
            go_wp2
            go_roundw
            case measure => simp [intOf]; omega
            case rel => exact ⟨i + 1, _, _, by omega, by go_num, rfl, HA.out.set i _, H2.out, bl_set hb (by simp) _⟩
      · obtain rfl : i = ys.length := by omega
        have HF := Lib.hid (as_end HMS.out hle)
        have hz := HA.out.cell (show ys.length < zs.length by omega)
        have hf := HA.out.free ys.length
        have HR := Lib.hid ((HA.out.set ys.length c).rdf (ok := ok) (n := ys.length + 1) (c := ys.length + 1) (HOK.out _ (Nat.le_refl _)) HF.out.1.symm (by rw [HF.out.1]; omega) (by rw [HF.out.1]; omega))
        go_wp2_with (go_at_call 81; refine (trim_any ok _ (zs.set ys.length c) _ HR.out HF.out.2.1).mono ?_; rintro e w' ⟨r2, rfl, hr, rfl⟩)
        go_ret
        exact ⟨r2, rfl, (by rw [show val xs + val ys = val (zs.set ys.length c) from (by have h9 := HF.out.2.2; omega)]; exact hr), bl_set hb (by simp) _⟩
  · have hle : ys.length ≤ xs.length := by omega
    have hmk := make_u32 (xs.length + 1) (by omega)
    simp only [Int.natCast_add, Int.natCast_one] at hmk
    go_enter Try.func69, Try.ntmps69
    go_wp2
    go_loopw [6, 7, 8, 22] (fun cc s7 s8 u wr => ∃ (i : Nat) (c : Int) (zs : List Int), i ≤ xs.length ∧ u = .int .i64 i ∧ cc = .int .u32 c ∧ ArrU wr w.heap.size zs ∧ AS xs ys zs c i ∧ Below w.heap.size w wr) (fun _ _ _ u _ => xs.length - (intOf u).toNat)
    case atStart => exact ⟨0, 0, _, Nat.zero_le _, rfl, rfl, zeros_arr _ _, ⟨by simp, by simp [vs], fun j hj => by omega, by omega, by omega⟩, bl_alloc (Below.refl _ _) _⟩
    case round =>
      obtain ⟨i, c, zs, hi, rfl, rfl, ha, hms, hb⟩ := hrel
      have HA := Lib.hid ha
      have HMS := Lib.hid hms
      obtain ⟨q1, q2, q3, q4, q5⟩ := hms
      clear ha q2 q3
      by_cases hlt : i < xs.length
      · obtain ⟨ad, rfl, _, hc⟩ := HX.out.at_ hlt
        obtain ⟨x0, x1⟩ := limb_ok LX.out i
        obtain ⟨y0, y1⟩ := limb_ok LY.out i
        have hstep := fun s t => as_step (s := s) (t := t) HMS.out hlt
        obtain ⟨x, hx⟩ : ∃ x, x = xs.getD i 0 := ⟨_, rfl⟩
        obtain ⟨y, hy⟩ : ∃ y, y = ys.getD i 0 := ⟨_, rfl⟩
        have hz := HA.out.cell (show i < zs.length by omega)
        have hf := HA.out.free i
        have hc' : wr.cell? (ad.add i) = some (.int .u32 x) := by rw [hx]; exact (hb.cell (World.block_lt_of_cell? w _ hc)).trans hc
        rw [← hx] at x0 x1 hstep
        rw [← hy] at y0 y1 hstep
        have HS := Lib.hid hstep
        clear hc hx hstep
        by_cases hyl : i < ys.length
        · obtain ⟨ad2, rfl, _, hc2⟩ := HY.out.at_ hyl
          have hc2' : wr.cell? (ad2.add i) = some (.int .u32 y) := by rw [hy]; exact (hb.cell (World.block_lt_of_cell? w _ hc2)).trans hc2
          clear hc2 hy
          by_cases hge : 1000000000 ≤ x + c + y
          · have H2 := Lib.hid (HS.out (x + c + y - 1000000000) 1 (by omega) (by omega) (by omega))
            go_wp2
            go_roundw
            case measure => simp [intOf]; omega
            case rel => exact ⟨i + 1, _, _, by omega, by go_num, rfl, HA.out.set i _, H2.out, bl_set hb (by simp) _⟩
          · have H2 := Lib.hid (HS.out (x + c + y) 0 (by omega) (by omega) (by omega))
            go_wp2
            go_roundw
            case measure => simp [intOf]; omega
            case rel => exact ⟨i + 1, _, _, by omega, by go_num, rfl, HA.out.set i _, H2.out, bl_set hb (by simp) _⟩
        · have hy0 : y = 0 := by rw [hy]; exact getD_of_ge (by omega)
          by_cases hge : 1000000000 ≤ x + c
          · have H2 := Lib.hid (HS.out (x + c - 1000000000) 1 (by omega) (by omega) (by omega))
            clear hy hy0
            go_wp2
            go_roundw
            case measure => simp [intOf]; omega
            case rel => exact ⟨i + 1, _, _, by omega, by go_num, rfl, HA.out.set i _, H2.out, bl_set hb (by simp) _⟩
          · have H2 := Lib.hid (HS.out (x + c) 0 (by omega) (by omega) (by omega))
            clear hy hy0
            go_wp2
            go_roundw
            case measure => simp [intOf]; omega
            case rel => exact ⟨i + 1, _, _, by omega, by go_num, rfl, HA.out.set i _, H2.out, bl_set hb (by simp) _⟩
      · obtain rfl : i = xs.length := by omega
        have HF := Lib.hid (as_end HMS.out hle)
        have hz := HA.out.cell (show xs.length < zs.length by omega)
        have hf := HA.out.free xs.length
        have HR := Lib.hid ((HA.out.set xs.length c).rdf (ok := ok) (n := xs.length + 1) (c := xs.length + 1) (HOK.out _ (Nat.le_refl _)) HF.out.1.symm (by rw [HF.out.1]; omega) (by rw [HF.out.1]; omega))
        go_wp2_with (go_at_call 81; refine (trim_any ok _ (zs.set xs.length c) _ HR.out HF.out.2.1).mono ?_; rintro e w' ⟨r2, rfl, hr, rfl⟩)
        go_ret
        exact ⟨r2, rfl, (by rw [show val xs + val ys = val (zs.set xs.length c) from (by have h9 := HF.out.2.2; omega)]; exact hr), bl_set hb (by simp) _⟩

/-- What holds in the loop of sub. -/
def SS (a b zs : List Int) (c : Int) (i : Nat) : Prop :=
  zs.length = a.length ∧ vs zs i - c * 1000000000 ^ i = vs a i - vs b i ∧ (∀ j, j < i → 0 ≤ zs.getD j 0 ∧ zs.getD j 0 < 1000000000) ∧ 0 ≤ c ∧ c ≤ 1
theorem ss_step {a b zs : List Int} {c s t : Int} {i : Nat} (h : SS a b zs c i) (hi : i < a.length) (hs : s - t * 1000000000 = a.getD i 0 - c - b.getD i 0) (h0 : 0 ≤ s ∧ s < 1000000000) (h1 : 0 ≤ t ∧ t ≤ 1) :
    SS a b (zs.set i s) t (i + 1) := by
  obtain ⟨e1, e2, e3, e4, e5⟩ := h
  refine ⟨by simpa using e1, ?_, fun j hj => ?_, h1.1, h1.2⟩
  · show vs (zs.set i _) i + (zs.set i _).getD i 0 * 1000000000 ^ i - _ = (vs a i + a.getD i 0 * 1000000000 ^ i) - (vs b i + b.getD i 0 * 1000000000 ^ i)
    rw [vs_set _ _ _ _ (Nat.le_refl _), getD_set_self (by omega), Int.pow_succ]
    grind
  · by_cases e : j = i
    · subst e; rw [getD_set_self (by omega)]; exact h0
    · rw [getD_set_ne e]; exact e3 j (by omega)
theorem ss_end {a b zs : List Int} {c : Int} (h : SS a b zs c a.length) (hb : b.length ≤ a.length) (hv : val b ≤ val a) : Lb zs ∧ val zs = val a - val b := by
  obtain ⟨e1, e2, e3, e4, e5⟩ := h
  have hl : Lb zs := fun j hj => e3 j (by omega)
  refine ⟨hl, ?_⟩
  have h1 := vs_lt hl a.length
  have hp := pow_pos' a.length
  rw [vs_val, vs_ge b a.length hb] at e2
  have hc : c = 0 := by
    by_cases h : c = 0
    · exact h
    · have : c = 1 := by omega
      subst this
      omega
  subst hc
  rw [← vs_val, e1]; omega

set_option maxHeartbeats 4000000 in
theorem sub_any (ok : Nat → Prop) (v u : Value) (xs ys : List Int) (w : World) (hok : ∀ b, w.heap.size ≤ b → ok b) (hx : Rd .u32 w v xs) (hy : Rd .u32 w u ys) (lx : Lb xs) (ly : Lb ys) (nx : xs.length ≤ 16777216) (ny : ys.length ≤ xs.length) (hv : val ys ≤ val xs) :
    Calls Try.prog 73 #[v, u] w fun e w' => ∃ r, e = .returned r ∧ Rdf .u32 w' ok r (limbs (val xs - val ys).toNat) ∧ Below w.heap.size w w' := by
  have HX := Lib.hid hx
  have HY := Lib.hid hy
  have LX := Lib.hid lx
  have LY := Lib.hid ly
  have HOK := Lib.hid hok
  have HV := Lib.hid hv
  obtain ⟨A, c1, rfl, ⟨l1, l2⟩, _⟩ := hx
  obtain ⟨A2, c2, rfl, ⟨l3, l4⟩, _⟩ := hy
  clear lx ly hok hv
  have hmk := make_u32 xs.length (by omega)
  go_enter Try.func73, Try.ntmps73
  go_wp2
  go_loopw [6, 7, 8, 14] (fun cc s7 s8 u wr => ∃ (i : Nat) (c : Int) (zs : List Int), i ≤ xs.length ∧ u = .int .i64 i ∧ cc = .int .u32 c ∧ ArrU wr w.heap.size zs ∧ SS xs ys zs c i ∧ Below w.heap.size w wr) (fun _ _ _ u _ => xs.length - (intOf u).toNat)
  case atStart => exact ⟨0, 0, _, Nat.zero_le _, rfl, rfl, zeros_arr _ _, ⟨by simp, by simp [vs], fun j hj => by omega, by omega, by omega⟩, bl_alloc (Below.refl _ _) _⟩
  case round =>
    obtain ⟨i, c, zs, hi, rfl, rfl, ha, hms, hb⟩ := hrel
    have HA := Lib.hid ha
    have HMS := Lib.hid hms
    obtain ⟨q1, q2, q3, q4, q5⟩ := hms
    clear ha q2 q3
    by_cases hlt : i < xs.length
    · obtain ⟨ad, rfl, _, hc⟩ := HX.out.at_ hlt
      obtain ⟨x0, x1⟩ := limb_ok LX.out i
      obtain ⟨y0, y1⟩ := limb_ok LY.out i
      have hstep := fun s t => ss_step (s := s) (t := t) HMS.out hlt
      obtain ⟨x, hx⟩ : ∃ x, x = xs.getD i 0 := ⟨_, rfl⟩
      obtain ⟨y, hy⟩ : ∃ y, y = ys.getD i 0 := ⟨_, rfl⟩
      have hz := HA.out.cell (show i < zs.length by omega)
      have hf := HA.out.free i
      have hc' : wr.cell? (ad.add i) = some (.int .u32 x) := by rw [hx]; exact (hb.cell (World.block_lt_of_cell? w _ hc)).trans hc
      rw [← hx] at x0 x1 hstep
      rw [← hy] at y0 y1 hstep
      have HS := Lib.hid hstep
      clear hc hx hstep
      by_cases hyl : i < ys.length
      · obtain ⟨ad2, rfl, _, hc2⟩ := HY.out.at_ hyl
        have hc2' : wr.cell? (ad2.add i) = some (.int .u32 y) := by rw [hy]; exact (hb.cell (World.block_lt_of_cell? w _ hc2)).trans hc2
        clear hc2 hy
        by_cases hge : x < c + y
        · have H2 := Lib.hid (HS.out (x + 1000000000 - (c + y)) 1 (by omega) (by omega) (by omega))
          go_wp2
          try go_region
          all_goals (try go_wp2)
          all_goals
            go_roundw
            case measure => simp [intOf]; omega
            case rel => exact ⟨i + 1, _, _, by omega, by go_num, rfl, HA.out.set i _, H2.out, by repeat (first | exact hb | apply bl_drew | refine bl_set ?_ (by simp) _)⟩
        · have H2 := Lib.hid (HS.out (x - (c + y)) 0 (by omega) (by omega) (by omega))
          go_wp2
          go_roundw
          case measure => simp [intOf]; omega
          case rel => exact ⟨i + 1, _, _, by omega, by go_num, rfl, HA.out.set i _, H2.out, bl_set hb (by simp) _⟩
      · have hy0 : y = 0 := by rw [hy]; exact getD_of_ge (by omega)
        by_cases hge : x < c
        · have H2 := Lib.hid (HS.out (x + 1000000000 - c) 1 (by omega) (by omega) (by omega))
          clear hy hy0
          go_wp2
          try go_region
          all_goals (try go_wp2)
          all_goals
            go_roundw
            case measure => simp [intOf]; omega
            case rel => exact ⟨i + 1, _, _, by omega, by go_num, rfl, HA.out.set i _, H2.out, by repeat (first | exact hb | apply bl_drew | refine bl_set ?_ (by simp) _)⟩
        · have H2 := Lib.hid (HS.out (x - c) 0 (by omega) (by omega) (by omega))
          clear hy hy0
          go_wp2
          go_roundw
          case measure => simp [intOf]; omega
          case rel => exact ⟨i + 1, _, _, by omega, by go_num, rfl, HA.out.set i _, H2.out, bl_set hb (by simp) _⟩
    · obtain rfl : i = xs.length := by omega
      have HF := Lib.hid (ss_end HMS.out ny HV.out)
      have HR := Lib.hid (HA.out.rdf (ok := ok) (n := xs.length) (c := xs.length) (HOK.out _ (Nat.le_refl _)) q1.symm (by omega) (by omega))
      go_wp2_with (go_at_call 81; refine (trim_any ok _ zs _ HR.out HF.out.1).mono ?_; rintro e w' ⟨r2, rfl, hr, rfl⟩)
      go_ret
      exact ⟨r2, rfl, (by rw [← HF.out.2]; exact hr), hb⟩
end Go.Proofs.Ytikpdkgamcecjaa
