/- Walks: norm. -/
import Derived.Test.YtikpdkgamcecjaaR2
namespace Go.Proofs.Ytikpdkgamcecjaa
open Go.RowKit
set_option linter.unusedSimpArgs false
set_option linter.unusedVariables false

theorem reads_one (W : World) (t : TypeId) (u : Value) : Reads (W.alloc (.cells #[u] t)) (W.heap.size + 1) 1 (some ⟨W.heap.size, 0, none⟩) 1 [u] := by
  refine ⟨rfl, fun _ => ⟨_, rfl, by simp, fun j v hj => ?_⟩⟩
  have : j = 0 := by
    cases j with
    | zero => rfl
    | succ j => simp at hj
  subst this
  simp at hj
  rw [add_at, blk_cell (blk_new W _) (0 + 0), ← hj]; rfl
theorem own_base {w : World} {base : Nat} {e : TypeId} {size n : Nat} {v : Value} {xs : List Value} (h : w.ownsRow base e size v n xs) (k : Nat) (hk : v.ownBlock = some k) : base ≤ k := by
  rcases h.2 with ⟨rfl, _⟩ | ⟨g, cap, cur, rfl, hb, _⟩
  · simp [Value.ownBlock] at hk
  · have : g = k := by simpa [Value.ownBlock] using hk
    omega
theorem own_made (W : World) (m base : Nat) (hm : m ≤ 1073741824) (hb : base ≤ W.heap.size) : (W.alloc (.cells (Array.replicate m (.int .u32 0)) 43)).ownsRow base 43 1 (.slice (some ⟨W.heap.size, 0, none⟩) 0 m) 0 [] := by
  refine ⟨by simp, .inr ⟨W.heap.size, m, Array.replicate m (.int .u32 0), rfl, hb, blk_new W _, Nat.zero_le _, by simp [maxLen]; omega, by simp, by simp⟩⟩
/-- make of no limb, room for m. -/
theorem make0_u32 (m : Nat) (hm : m ≤ 1073741824) (W : World) : (Instr.makeSlice 22 (.int .i64 0) (.int .i64 (m : Int))).run Try.prog W = .ok (.slice (some ⟨W.heap.size, 0, none⟩) 0 m) (W.alloc (.cells (Array.replicate m (.int .u32 0)) 43)) := by
  obtain ⟨i0, hi0, hz0, hz1, hz2⟩ := info_parts info_u32
  have h := run_make (P := Try.prog) W 22 43 i0 (.int .u32 0) Try.underlying22 hi0 hz0 .i64 .i64 0 (m : Int) (Int.le_refl _) (by omega) (by rw [hz2]; omega) (by omega)
  have e : madeCells (Value.cells (.int .u32 0)) (m * 1) = Array.replicate m (.int .u32 0) := by
    apply Array.ext'
    apply List.ext_getElem
    · simp [madeCells]
    · intro i h1 h2
      simp [madeCells, Value.cells, Nat.mod_one]
  simp only [Int.toNat_natCast, Int.toNat_zero, hz1] at h
  rw [e] at h
  exact h

/-- Each limb fits a uint32. -/
def U32 (xs : List Int) : Prop := ∀ j, j < xs.length → 0 ≤ xs.getD j 0 ∧ xs.getD j 0 < 4294967296
/-- What holds in the loop of norm. -/
def NS (xs : List Int) (zs : List Int) (c : Int) (i : Nat) : Prop :=
  zs.length = i ∧ vs zs i + c * 1000000000 ^ i = vs xs i ∧ Lb zs ∧ 0 ≤ c ∧ c < 10
theorem getD_snoc (zs : List Int) (x : Int) (j : Nat) : (zs ++ [x]).getD j 0 = if j < zs.length then zs.getD j 0 else if j = zs.length then x else 0 := by
  simp only [List.getD_eq_getElem?_getD, List.getElem?_append]
  by_cases h : j < zs.length
  · simp [h]
  · by_cases e : j = zs.length
    · subst e; simp
    · simp only [h, e, if_false]
      rw [List.getElem?_eq_none (by simp; omega)]; rfl
theorem vs_snoc (zs : List Int) (x : Int) : ∀ i, i ≤ zs.length → vs (zs ++ [x]) i = vs zs i
  | 0, _ => rfl
  | i + 1, h => by
    show vs (zs ++ [x]) i + (zs ++ [x]).getD i 0 * _ = vs zs i + _
    rw [vs_snoc zs x i (by omega), getD_snoc, if_pos (by omega)]
theorem lb_snoc {zs : List Int} {x : Int} (h : Lb zs) (hx : 0 ≤ x ∧ x < 1000000000) : Lb (zs ++ [x]) := by
  intro j hj
  rw [getD_snoc]
  by_cases e : j < zs.length
  · rw [if_pos e]; exact h j e
  · simp at hj
    rw [if_neg e, if_pos (by omega)]; exact hx
theorem ns_step {xs zs : List Int} {c : Int} {i : Nat} (h : NS xs zs c i) (hi : i < xs.length) (hx : 0 ≤ xs.getD i 0 ∧ xs.getD i 0 < 4294967296) :
    NS xs (zs ++ [(xs.getD i 0 + c) % 1000000000]) ((xs.getD i 0 + c) / 1000000000) (i + 1) := by
  obtain ⟨h1, h2, h3, h4, h5⟩ := h
  refine ⟨by simp [h1], ?_, lb_snoc h3 (by omega), by omega, by omega⟩
  show vs (zs ++ _) i + (zs ++ _).getD i 0 * 1000000000 ^ i + _ = vs xs i + xs.getD i 0 * 1000000000 ^ i
  rw [vs_snoc _ _ _ (by omega), getD_snoc, if_neg (by omega), if_pos h1.symm, Int.pow_succ]
  have e : (xs.getD i 0 + c) = 1000000000 * ((xs.getD i 0 + c) / 1000000000) + (xs.getD i 0 + c) % 1000000000 := by omega
  generalize (xs.getD i 0 + c) / 1000000000 = q at *
  generalize (xs.getD i 0 + c) % 1000000000 = r at *
  grind
theorem ns_end {xs zs : List Int} (h : NS xs zs 0 xs.length) : Lb zs ∧ val zs = val xs := by
  obtain ⟨h1, h2, h3, h4, h5⟩ := h
  refine ⟨h3, ?_⟩
  rw [← vs_val, ← vs_val, h1, ← h2]; omega
theorem ns_more {xs zs : List Int} {c : Int} (h : NS xs zs c xs.length) : Lb (zs ++ [c]) ∧ val (zs ++ [c]) = val xs := by
  obtain ⟨h1, h2, h3, h4, h5⟩ := h
  refine ⟨lb_snoc h3 (by omega), ?_⟩
  rw [← vs_val, ← vs_val xs, List.length_append]
  show vs (zs ++ [c]) zs.length + (zs ++ [c]).getD zs.length 0 * 1000000000 ^ zs.length = _
  rw [vs_snoc _ _ _ (Nat.le_refl _), getD_snoc, if_neg (by omega), if_pos rfl, h1, h2]

set_option maxHeartbeats 2000000 in
theorem norm_any (ok : Nat → Prop) (v : Value) (xs : List Int) (w : World) (hok : ∀ b, w.heap.size ≤ b → ok b) (h : Rd .u32 w v xs) (hx : U32 xs) (hn : xs.length ≤ 16777216) :
    Calls Try.prog 65 #[v] w fun e w' => ∃ r, e = .returned r ∧ Rdf .u32 w' ok r (limbs (val xs).toNat) ∧ Below w.heap.size w w' := by
  obtain ⟨i0, hi0, hz0, hz1, hz2⟩ := info_parts info_u32
  have H := Lib.hid h
  have HX := Lib.hid hx
  have HOK := Lib.hid hok
  obtain ⟨A, c, rfl, ⟨hl1, hl2⟩, _⟩ := h
  have hmk := make0_u32 (xs.length + 1) (by omega)
  simp only [Int.natCast_add, Int.natCast_one] at hmk
  clear hx hok
  go_enter Try.func65, Try.ntmps65
  go_wp2
  go_loopw [3, 4, 6, 7, 14] (fun v3 cc s6 s7 u wr => ∃ (i : Nat) (c : Int) (zs : List Int), i ≤ xs.length ∧ u = .int .i64 i ∧ cc = .int .u64 c ∧ wr.ownsRow w.heap.size 43 1 v3 zs.length (zs.map (Value.int .u32)) ∧ NS xs zs c i ∧ Below w.heap.size w wr) (fun _ _ _ _ u _ => xs.length - (intOf u).toNat)
  case atStart => exact ⟨0, 0, [], Nat.zero_le _, rfl, rfl, own_made w _ _ (by omega) (Nat.le_refl _), ⟨rfl, by simp [vs], lb_nil, by omega, by omega⟩, bl_alloc (Below.refl _ _) _⟩
  case round =>
    obtain ⟨i, c, zs, hi, rfl, rfl, ha, hns, hb⟩ := hrel
    have HA := Lib.hid ha
    have HNS := Lib.hid hns
    obtain ⟨q1, q2, q3, q4, q5⟩ := hns
    have HQ := Lib.hid q1
    clear ha q1 q2 q3
    by_cases hlt : i < xs.length
    · obtain ⟨ad, rfl, _, hc⟩ := H.out.at_ hlt
      have HS := Lib.hid (ns_step HNS.out hlt (HX.out i hlt))
      have hx0 := (HX.out i hlt).1
      have hx1 := (HX.out i hlt).2
      obtain ⟨x, hx⟩ : ∃ x, x = xs.getD i 0 := ⟨_, rfl⟩
      rw [← hx] at hc HS hx0 hx1
      clear hx
      have hc' : wr.cell? (ad.add i) = some (.int .u32 x) := (hb.cell (World.block_lt_of_cell? w _ hc)).trans hc
      go_wp2_with (at_builtin; refine wpList_append_any _ rfl (.tmp 22) (.tmp 26) _ rfl w.heap.size 43 i0 (.int .u32 0) 1 4 Try.underlying22 hi0 hz0 hz1 hz2 rfl (by decide) _ _ _ rfl (HA.out.alloc _) (wr.heap.size + 1) (some ⟨wr.heap.size, 0, none⟩) 1 1 [.int .u32 ((x + c) % 1000000000)] rfl (reads_one wr _ _) ?_ ?_ ?_ ?_ ?_)
      · first | rfl | (intro u hu; simp at hu; subst hu; rfl)
      · have := HQ.out; simp only [maxLen]; omega
      · have := HQ.out; omega
      · have := hb.size; simp; omega
      · intro v' w1 hown hg hat
        have hb1 := Lib.hid ((bl_alloc hb _).grown hg (by have := hb.size; simp; omega) (fun k hk => own_base HA.out k hk))
        have HO := Lib.hid hown
        clear hown hg hat
        go_wp2
        go_roundw
        case measure => simp [intOf]; omega
        case rel =>
          refine ⟨i + 1, _, zs ++ [(x + c) % 1000000000], by omega, by go_num, rfl, ?_, HS.out, hb1.out⟩
          have h9 := HO.out
          simpa using h9
    · obtain rfl : i = xs.length := by omega
      by_cases hc0 : c = 0
      · subst hc0
        have HE := Lib.hid (ns_end HNS.out)
        go_wp2_with (go_at_call 81; refine (trim_any ok _ zs _ (own_rdf HA.out HOK.out) HE.out.1).mono ?_; rintro e w' ⟨r, rfl, hr, rfl⟩)
        go_ret
        exact ⟨_, rfl, by rw [← HE.out.2]; exact hr, hb⟩
      · have hc1 : 0 < c := by omega
        have HE := Lib.hid (ns_more HNS.out)
        clear hc0
        go_wp2_with (at_builtin; refine wpList_append_any _ rfl (.tmp 33) (.tmp 36) _ rfl w.heap.size 43 i0 (.int .u32 0) 1 4 Try.underlying22 hi0 hz0 hz1 hz2 rfl (by decide) _ _ _ rfl (HA.out.alloc _) (wr.heap.size + 1) (some ⟨wr.heap.size, 0, none⟩) 1 1 [.int .u32 c] rfl (reads_one wr _ _) ?_ ?_ ?_ ?_ ?_)
        · first | rfl | (intro u hu; simp at hu; subst hu; rfl)
        · have := HQ.out; simp only [maxLen]; omega
        · have := HQ.out; omega
        · have := hb.size; simp; omega
        · intro v' w1 hown hg hat
          have hb1 := Lib.hid ((bl_alloc hb _).grown hg (by have := hb.size; simp; omega) (fun k hk => own_base HA.out k hk))
          have hown2 : w1.ownsRow w.heap.size 43 1 v' (zs.length + 1) ((zs ++ [c]).map (Value.int .u32)) := by simpa using hown
          have HO := Lib.hid hown2
          clear hown hg hat hown2
          go_wp2_with (go_at_call 81; refine (trim_any ok _ (zs ++ [c]) _ (own_rdf HO.out HOK.out) HE.out.1).mono ?_; rintro e w' ⟨r, rfl, hr, rfl⟩)
          go_ret
          exact ⟨_, rfl, by rw [← HE.out.2]; exact hr, hb1.out⟩
end Go.Proofs.Ytikpdkgamcecjaa
