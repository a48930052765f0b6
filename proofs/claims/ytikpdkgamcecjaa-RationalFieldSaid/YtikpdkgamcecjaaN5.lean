/- Walks of the reference: natSub, natSmall. -/
import Derived.Test.YtikpdkgamcecjaaN4
namespace Go.Proofs.Ytikpdkgamcecjaa
open Go.RowKit
set_option linter.unusedSimpArgs false
set_option linter.unusedVariables false

set_option maxHeartbeats 4000000 in
theorem rsub_any (ok : Nat → Prop) (v u : Value) (xs ys : List Int) (w : World) (hok : ∀ b, w.heap.size ≤ b → ok b) (hx : Rd .u32 w v xs) (hy : Rd .u32 w u ys) (lx : Lb xs) (ly : Lb ys) (nx : xs.length ≤ 16777216) (ny : ys.length ≤ xs.length) (hv : val ys ≤ val xs) :
    Calls Try.prog 74 #[v, u] w fun e w' => ∃ r, e = .returned r ∧ Rdf .u32 w' ok r (limbs (val xs - val ys).toNat) ∧ Below w.heap.size w w' := by
  have HX := Lib.hid hx
  have HY := Lib.hid hy
  have LX := Lib.hid lx
  have LY := Lib.hid ly
  have HOK := Lib.hid hok
  have HV := Lib.hid hv
  obtain ⟨A, c1, rfl, ⟨l1, l2⟩, _⟩ := hx
  obtain ⟨A2, c2, rfl, ⟨l3, l4⟩, _⟩ := hy
  clear lx ly hok hv
  have hmk := make_u32 xs.length (by omega)
  go_enter Try.func74, Try.ntmps74
  go_wp2
  go_loopw [6, 7] (fun cc u wr => ∃ (i : Nat) (c : Int) (zs : List Int), i ≤ xs.length ∧ u = .int .i64 i ∧ cc = .int .u32 c ∧ ArrU wr w.heap.size zs ∧ SS xs ys zs c i ∧ Below w.heap.size w wr) (fun _ u _ => xs.length - (intOf u).toNat)
  case atStart => exact ⟨0, 0, _, Nat.zero_le _, rfl, rfl, zeros_arr _ _, ⟨by simp, by simp [vs], fun j hj => by omega, by omega, by omega⟩, bl_alloc (Below.refl _ _) _⟩
  case round =>
    obtain ⟨i, c, zs, hi, rfl, rfl, ha, hms, hb⟩ := hrel
    have HA := Lib.hid ha
    have HMS := Lib.hid hms
    obtain ⟨q1, q2, q3, q4, q5⟩ := hms
    clear ha q2 q3
    by_cases hlt : i < xs.length
    · obtain ⟨ad, rfl, _, hc⟩ := HX.out.at_ hlt
      obtain ⟨x0, x1⟩ := limb_ok LX.out i
      obtain ⟨y0, y1⟩ := limb_ok LY.out i
      have hstep := fun s t => ss_step (s := s) (t := t) HMS.out hlt
      obtain ⟨x, hx⟩ : ∃ x, x = xs.getD i 0 := ⟨_, rfl⟩
      obtain ⟨y, hy⟩ : ∃ y, y = ys.getD i 0 := ⟨_, rfl⟩
      have hz := HA.out.cell (show i < zs.length by omega)
      have hf := HA.out.free i
      have hc' : wr.cell? (ad.add i) = some (.int .u32 x) := by rw [hx]; exact (hb.cell (World.block_lt_of_cell? w _ hc)).trans hc
      rw [← hx] at x0 x1 hstep
      rw [← hy] at y0 y1 hstep
      have HS := Lib.hid hstep
      clear hc hx hstep
      by_cases hyl : i < ys.length
      · obtain ⟨ad2, rfl, _, hc2⟩ := HY.out.at_ hyl
        have hc2' : wr.cell? (ad2.add i) = some (.int .u32 y) := by rw [hy]; exact (hb.cell (World.block_lt_of_cell? w _ hc2)).trans hc2
        clear hc2 hy
        by_cases hge : x < c + y
        · have H2 := Lib.hid (HS.out (x + 1000000000 - (c + y)) 1 (by omega) (by omega) (by omega))
          go_wp2
          try go_region
          all_goals (try go_wp2)
          all_goals
            go_roundw
            case measure => simp [intOf]; omega
            case rel => exact ⟨i + 1, _, _, by omega, by go_num, rfl, HA.out.set i _, H2.out, by repeat (first | exact hb | apply bl_drew | refine bl_set ?_ (by simp) _)⟩
        · have H2 := Lib.hid (HS.out (x - (c + y)) 0 (by omega) (by omega) (by omega))
          go_wp2
          try go_region
          all_goals (try go_wp2)
          all_goals
            go_roundw
            case measure => simp [intOf]; omega
            case rel => exact ⟨i + 1, _, _, by omega, by go_num, rfl, HA.out.set i _, H2.out, by repeat (first | exact hb | apply bl_drew | refine bl_set ?_ (by simp) _)⟩
      · have hy0 : y = 0 := by rw [hy]; exact getD_of_ge (by omega)
        by_cases hge : x < c
        · have H2 := Lib.hid (HS.out (x + 1000000000 - c) 1 (by omega) (by omega) (by omega))
          clear hy hy0
          go_wp2
          try go_region
          all_goals (try go_wp2)
          all_goals
            go_roundw
            case measure => simp [intOf]; omega
            case rel => exact ⟨i + 1, _, _, by omega, by go_num, rfl, HA.out.set i _, H2.out, by repeat (first | exact hb | apply bl_drew | refine bl_set ?_ (by simp) _)⟩
        · have H2 := Lib.hid (HS.out (x - c) 0 (by omega) (by omega) (by omega))
          clear hy hy0
          go_wp2
          try go_region
          all_goals (try go_wp2)
          all_goals
            go_roundw
            case measure => simp [intOf]; omega
            case rel => exact ⟨i + 1, _, _, by omega, by go_num, rfl, HA.out.set i _, H2.out, by repeat (first | exact hb | apply bl_drew | refine bl_set ?_ (by simp) _)⟩
    · obtain rfl : i = xs.length := by omega
      have HF := Lib.hid (ss_end HMS.out ny HV.out)
      have HR := Lib.hid (HA.out.rdf (ok := fun _ => True) (n := xs.length) (c := xs.length) trivial q1.symm (by omega) (by omega))
      have hsz := hb.size
      go_wp2_with fail
      refine (rcut_any ok _ zs _ (fun b h => HOK.out b (by omega)) HR.out.now HF.out.1 (by omega)).mono ?_
      rw [HF.out.2]
      rintro e w2 ⟨r2, rfl, hr, hb2⟩
      have HR2 := Lib.hid hr
      clear hr
      go_wp2_with fail
      go_ret
      exact ⟨r2, rfl, HR2.out, bl_call hb hb2⟩
set_option maxHeartbeats 2000000 in
theorem rsmall_any (ok : Nat → Prop) (v : Value) (xs : List Int) (d : Int) (w : World) (hok : ∀ b, w.heap.size ≤ b → ok b) (h : Rd .u32 w v xs) (hlb : Lb xs) (hd : 1 ≤ d ∧ d < 1000000000) (hn : xs.length ≤ 16777216) :
    Calls Try.prog 88 #[v, .int .u64 d] w fun e w' => ∃ r, e = .returned (.tuple #[r, .int .u64 (val xs % d)]) ∧ Rdf .u32 w' ok r (limbs (val xs / d).toNat) ∧ Below w.heap.size w w' := by
  have H := Lib.hid h
  have HLB := Lib.hid hlb
  have HOK := Lib.hid hok
  obtain ⟨A, c, rfl, ⟨hl1, hl2⟩, _⟩ := h
  have hmk := make_u32 xs.length (by omega)
  clear hlb hok
  obtain ⟨d1, d2⟩ := hd
  go_enter Try.func88, Try.ntmps88
  go_wp2
  go_loopw [7, 8] (fun rr u wr => ∃ (m : Nat) (r : Int) (zs : List Int), m ≤ xs.length ∧ u = .int .i64 ((m : Int) - 1) ∧ rr = .int .u64 r ∧ ArrU wr w.heap.size zs ∧ DS xs d zs r m ∧ Below w.heap.size w wr) (fun _ u _ => (intOf u + 1).toNat)
  case atStart => exact ⟨xs.length, 0, _, Nat.le_refl _, rfl, rfl, zeros_arr _ _, ⟨by simp, fun j hj => by rw [getD_replicate]; omega, fun j hj => getD_replicate _ _, by simp [vs_zeros], by omega, by omega⟩, bl_alloc (Below.refl _ _) _⟩
  case round =>
    obtain ⟨m', r, zs, hk, rfl, rfl, ha, hms, hb⟩ := hrel
    have HA := Lib.hid ha
    have HMS := Lib.hid hms
    obtain ⟨q1, q2, q3, q4, q5, q6⟩ := hms
    clear ha q2 q3 q4
    cases m' with
    | succ m =>
      have e0 : ((m + 1 : Nat) : Int) - 1 = m := by omega
      rw [e0]
      have hm1 : m < xs.length := by omega
      obtain ⟨ad, rfl, _, hc⟩ := H.out.at_ hm1
      have HS := Lib.hid (ds_step HMS.out hm1 (HLB.out m hm1) d1)
      have hx0 := (HLB.out m hm1).1
      have hx1 := (HLB.out m hm1).2
      obtain ⟨x, hx⟩ : ∃ x, x = xs.getD m 0 := ⟨_, rfl⟩
      rw [← hx] at hc HS hx0 hx1
      clear hx e0
      obtain ⟨b1, b2⟩ := ds_lt ⟨q5, q6⟩ ⟨hx0, hx1⟩
      obtain ⟨e1, e2, e3, e4, e5⟩ := ediv_bd b1 (by omega) b2
      have HE3 := Lib.hid e3
      clear e3
      have hc' : wr.cell? (ad.add m) = some (.int .u32 x) := (hb.cell (World.block_lt_of_cell? w _ hc)).trans hc
      have hz := HA.out.cell (show m < zs.length by omega)
      have hf := HA.out.free m
      go_wp2
      try go_region
      all_goals (try go_wp2)
      all_goals
        go_roundw
        case measure => simp [intOf] <;> omega
        case rel =>
          refine ⟨m, _, zs.set m ((r * 1000000000 + x) / d), by omega, by go_num, rfl, ?_, ?_, ?_⟩
          · exact HA.out.set m _
          · exact HS.out
          · repeat (first | exact hb | apply bl_drew | refine bl_set ?_ (by simp) _)
    | zero =>
      have e0 : ((0 : Nat) : Int) - 1 = -1 := by omega
      rw [e0]
      have HF := Lib.hid (ds_end HMS.out d1)
      have HR := Lib.hid (HA.out.rdf (ok := fun _ => True) (n := xs.length) (c := xs.length) trivial q1.symm (by omega) (by omega))
      have hsz := hb.size
      clear e0
      go_wp2_with fail
      refine (rcut_any ok _ zs _ (fun b h => HOK.out b (by omega)) HR.out.now HF.out.1 (by omega)).mono ?_
      rw [HF.out.2.1]
      rintro e w2 ⟨r2, rfl, hr, hb2⟩
      have HR2 := Lib.hid hr
      clear hr
      go_wp2_with fail
      go_ret2
      exact ⟨r2, by rw [HF.out.2.2]; rfl, HR2.out, bl_call hb hb2⟩
end Go.Proofs.Ytikpdkgamcecjaa
