/- Walks: mulSmall. -/
import Derived.Test.YtikpdkgamcecjaaR1
namespace Go.Proofs.Ytikpdkgamcecjaa
open Go.RowKit
set_option linter.unusedSimpArgs false
set_option linter.unusedVariables false

/-- Block g is an array of these limbs. -/
def ArrU (w : World) (g : Nat) (zs : List Int) : Prop := w.heap[g]? = some (.cells (zs.map (Value.int .u32)).toArray 43 (0, 0))
section
variable {w w1 : World} {g : Nat} {zs : List Int}
theorem ArrU.cell (h : ArrU w g zs) {i : Nat} (hi : i < zs.length) : w.cell? ⟨g, i, none⟩ = some (.int .u32 (zs.getD i 0)) := by
  rw [blk_cell h i]; simp [List.getElem?_map, List.getElem?_eq_getElem hi, List.getD_eq_getElem?_getD]
theorem ArrU.free (h : ArrU w g zs) (i : Nat) : w.frozen? ⟨g, i, none⟩ = false := blk_frozen h i
theorem ArrU.set (h : ArrU w g zs) (i : Nat) (x : Int) : ArrU (w.setCell ⟨g, i, none⟩ (.int .u32 x)) g (zs.set i x) := by
  have h2 := blk_set h i (.int .u32 x)
  unfold ArrU
  rw [h2, List.map_set]
  simp
theorem ArrU.far (h : ArrU w g zs) {p : Addr} (hp : g ≠ p.block) (u : Value) : ArrU (w.setCell p u) g zs := blk_far h hp u
theorem ArrU.below (h : ArrU w g zs) (hb : Below w.heap.size w w1) : ArrU w1 g zs := blk_below h hb
theorem ArrU.rdf (h : ArrU w g zs) {ok : Nat → Prop} (hok : ok g) {n c : Nat} (hn : n = zs.length) (hc : zs.length ≤ c) (hl : zs.length ≤ 9223372036854775807) : Rdf .u32 w ok (.slice (some ⟨g, 0, none⟩) n c) zs :=
  rdf_blk h hn hl hc (fun j hj => by simp [List.getElem?_map, List.getElem?_eq_getElem hj, List.getD_eq_getElem?_getD]) hok
theorem ArrU.zeros (w : World) (m : Nat) : ArrU (w.alloc (.cells ((List.replicate m 0).map (Value.int .u32)).toArray 43)) w.heap.size (List.replicate m 0) := blk_new _ _
end
theorem zeros_arr (w : World) (m : Nat) : ArrU (w.alloc (.cells (Array.replicate m (.int .u32 0)) 43)) w.heap.size (List.replicate m 0) := by
  have h := ArrU.zeros w m
  simpa using h
theorem info_u32 : (Try.prog.info? 43).map (fun i => (i.zero, i.size, i.bytes)) = some (some (.int .u32 0), 1, 4) := by kernel_rfl
/-- make of m limbs. -/
theorem make_u32 (m : Nat) (hm : m ≤ 1073741824) (W : World) : (Instr.makeSlice 22 (.int .i64 (m : Int)) (.int .i64 (m : Int))).run Try.prog W = .ok (.slice (some ⟨W.heap.size, 0, none⟩) m m) (W.alloc (.cells ((List.replicate m 0).map (Value.int .u32)).toArray 43)) := by
  obtain ⟨i0, hi0, hz0, hz1, hz2⟩ := info_parts info_u32
  have h := run_make (P := Try.prog) W 22 43 i0 (.int .u32 0) Try.underlying22 hi0 hz0 .i64 .i64 (m : Int) (m : Int) (by omega) (Int.le_refl _) (by rw [hz2]; omega) (by omega)
  have e : madeCells (Value.cells (.int .u32 0)) (m * 1) = ((List.replicate m 0).map (Value.int .u32)).toArray := by
    apply Array.ext'
    apply List.ext_getElem
    · simp [madeCells]
    · intro i h1 h2
      simp [madeCells, Value.cells, Nat.mod_one]
  simp only [Int.toNat_natCast, hz1] at h
  rw [e] at h
  exact h
theorem getD_replicate (m i : Nat) : (List.replicate m (0 : Int)).getD i 0 = 0 := by
  simp only [List.getD_eq_getElem?_getD, List.getElem?_replicate]
  split <;> rfl
theorem vs_zeros (m : Nat) : ∀ i, vs (List.replicate m 0) i = 0
  | 0 => rfl
  | i + 1 => by
    show vs (List.replicate m 0) i + (List.replicate m 0).getD i 0 * _ = 0
    rw [vs_zeros m i, getD_replicate]; omega
theorem mul_pos_bd {x y a b : Int} (h1 : 0 ≤ x) (h2 : x ≤ a) (h3 : 0 ≤ y) (h4 : y ≤ b) : 0 ≤ x * y ∧ x * y ≤ a * b :=
  ⟨Int.mul_nonneg h1 h3, Int.mul_le_mul h2 h4 h3 (by omega)⟩

/-- What holds in the loop of mulSmall. -/
def MS (xs : List Int) (d : Int) (zs : List Int) (c : Int) (i : Nat) : Prop :=
  zs.length = xs.length + 1 ∧ vs zs i + c * 1000000000 ^ i = vs xs i * d ∧ (∀ j, j < i → 0 ≤ zs.getD j 0 ∧ zs.getD j 0 < 1000000000) ∧ 0 ≤ c ∧ c < 1000000000
theorem ms_step {xs : List Int} {d : Int} {zs : List Int} {c : Int} {i : Nat} (h : MS xs d zs c i) (hi : i < xs.length) (hx : 0 ≤ xs.getD i 0 ∧ xs.getD i 0 < 1000000000) (hd : 0 ≤ d ∧ d < 1000000000) :
    MS xs d (zs.set i ((xs.getD i 0 * d + c) % 1000000000)) ((xs.getD i 0 * d + c) / 1000000000) (i + 1) := by
  obtain ⟨h1, h2, h3, h4, h5⟩ := h
  obtain ⟨b1, b2⟩ := mul_pos_bd hx.1 (show xs.getD i 0 ≤ 999999999 by omega) hd.1 (show d ≤ 999999999 by omega)
  refine ⟨by simpa using h1, ?_, fun j hj => ?_, by omega, by omega⟩
  · show vs (zs.set i _) i + (zs.set i _).getD i 0 * 1000000000 ^ i + _ = (vs xs i + xs.getD i 0 * 1000000000 ^ i) * d
    rw [vs_set _ _ _ _ (Nat.le_refl _), getD_set_self (by omega), Int.pow_succ]
    have e : (xs.getD i 0 * d + c) = 1000000000 * ((xs.getD i 0 * d + c) / 1000000000) + (xs.getD i 0 * d + c) % 1000000000 := by omega
    generalize (xs.getD i 0 * d + c) / 1000000000 = q at *
    generalize (xs.getD i 0 * d + c) % 1000000000 = r at *
    grind
  · by_cases e : j = i
    · subst e; rw [getD_set_self (by omega)]; omega
    · rw [getD_set_ne e]; exact h3 j (by omega)

theorem ms_end {xs : List Int} {d : Int} {zs : List Int} {c : Int} (h : MS xs d zs c xs.length) : (zs.set xs.length c).length = xs.length + 1 ∧ Lb (zs.set xs.length c) ∧ val (zs.set xs.length c) = val xs * d := by
  obtain ⟨h1, h2, h3, h4, h5⟩ := h
  refine ⟨by simpa using h1, fun j hj => ?_, ?_⟩
  · by_cases e : j = xs.length
    · subst e; rw [getD_set_self (by omega)]; omega
    · rw [getD_set_ne e]
      simp at hj
      exact h3 j (by omega)
  · rw [← vs_val, ← vs_val]
    have e : (zs.set xs.length c).length = xs.length + 1 := by simpa using h1
    rw [e, ← h2]
    show vs (zs.set _ c) xs.length + (zs.set _ c).getD xs.length 0 * 1000000000 ^ xs.length = _
    rw [vs_set _ _ _ _ (Nat.le_refl _), getD_set_self (by omega)]

set_option maxHeartbeats 2000000 in
theorem mulSmall_any (v : Value) (xs : List Int) (d : Int) (w : World) (h : Rd .u32 w v xs) (hlb : Lb xs) (hd : 0 ≤ d ∧ d < 1000000000) (hn : xs.length ≤ 16777216) :
    Calls Try.prog 86 #[v, .int .u32 d] w fun e w' => ∃ g zs, e = .returned (.slice (some ⟨g, 0, none⟩) (xs.length + 1) (xs.length + 1)) ∧ ArrU w' g zs ∧ zs.length = xs.length + 1 ∧ Lb zs ∧ val zs = val xs * d ∧ w.heap.size ≤ g ∧ Below w.heap.size w w' := by
  have H := Lib.hid h
  have HLB := Lib.hid hlb
  obtain ⟨A, c, rfl, ⟨hl1, hl2⟩, _⟩ := h
  have hmk := make_u32 (xs.length + 1) (by omega)
  simp only [Int.natCast_add, Int.natCast_one] at hmk
  clear hlb
  obtain ⟨d1, d2⟩ := hd
  go_enter Try.func86, Try.ntmps86
  go_wp2
  go_loopw [6, 7, 8, 15] (fun cc s7 s8 u wr => ∃ (i : Nat) (c : Int) (zs : List Int), i ≤ xs.length ∧ u = .int .i64 i ∧ cc = .int .u64 c ∧ ArrU wr w.heap.size zs ∧ MS xs d zs c i ∧ Below w.heap.size w wr) (fun _ _ _ u _ => xs.length - (intOf u).toNat)
  case atStart => exact ⟨0, 0, _, Nat.zero_le _, rfl, rfl, zeros_arr _ _, ⟨by simp, by simp [vs], fun j hj => by omega, by omega, by omega⟩, bl_alloc (Below.refl _ _) _⟩
  case round =>
    obtain ⟨i, c, zs, hi, rfl, rfl, ha, hms, hb⟩ := hrel
    have HA := Lib.hid ha
    have HMS := Lib.hid hms
    obtain ⟨q1, q2, q3, q4, q5⟩ := hms
    clear ha q2 q3
    have hlz := blk_lt HA.out
    by_cases hlt : i < xs.length
    · obtain ⟨ad, rfl, _, hc⟩ := H.out.at_ hlt
      obtain ⟨b1, b2⟩ := mul_pos_bd (HLB.out i hlt).1 (show xs.getD i 0 ≤ 999999999 by have := (HLB.out i hlt).2; omega) d1 (show d ≤ 999999999 by omega)
      have HS := Lib.hid (ms_step HMS.out hlt (HLB.out i hlt) ⟨d1, d2⟩)
      have hx0 := (HLB.out i hlt).1
      have hx1 := (HLB.out i hlt).2
      obtain ⟨x, hx⟩ : ∃ x, x = xs.getD i 0 := ⟨_, rfl⟩
      rw [← hx] at hc b1 b2 HS hx0 hx1
      clear hx
      have hc' : wr.cell? (ad.add i) = some (.int .u32 x) := (hb.cell (World.block_lt_of_cell? w _ hc)).trans hc
      have hz := HA.out.cell (show i < zs.length by omega)
      have hf := HA.out.free i
      go_wp2
      go_roundw
      case measure => simp [intOf]; omega
      case rel => exact ⟨i + 1, _, _, by omega, by go_num, rfl, HA.out.set i _, HS.out, bl_set hb (by simp) _⟩
    · obtain rfl : i = xs.length := by omega
      have HF := Lib.hid (ms_end HMS.out)
      have hz := HA.out.cell (show xs.length < zs.length by omega)
      have hf := HA.out.free xs.length
      go_wp2
      go_ret
      exact ⟨w.heap.size, _, rfl, HA.out.set xs.length c, HF.out.1, HF.out.2.1, HF.out.2.2, Nat.le_refl _, bl_set hb (by simp) _⟩
end Go.Proofs.Ytikpdkgamcecjaa
