import Derived.Test.YtbfgnpbkgegegaaV4
namespace Go.Proofs.Ytbfgnpbkgegegaa
open Go.RowKit
set_option linter.unusedSimpArgs false
set_option linter.unusedVariables false

theorem rvalid_any (v : Value) (bs fs : List Int) (w : World) (h : RdM w v bs fs) :
    Calls Try.prog 16 #[v] w fun e w' => e = .returned (.bool (validM bs fs)) ∧ Below w.heap.size w w' := by
  obtain ⟨b, f, rfl, hb, hf⟩ := h
  by_cases h1 : bs.length = 26
  · by_cases h2 : fs.length = 26
    · obtain ⟨A, c, rfl, hl, hc⟩ := hb
      obtain ⟨A2, c2, rfl, hl2, hc2⟩ := hf
      obtain ⟨ab, rfl, hab⟩ := hc.resolve_left (by rintro rfl; simp at h1)
      obtain ⟨af, rfl, haf⟩ := hc2.resolve_left (by rintro rfl; simp at h2)
      have e : validM bs fs = (costsB bs fs 26 && endsB bs fs) := by unfold validM; simp [h1, h2]
      rw [e, h1, h2]
      exact rvalid_yes ab af c c2 bs fs w (fun j hj => hab j (by omega)) (fun j hj => haf j (by omega))
    · have e : validM bs fs = false := by unfold validM; simp [h2]
      rw [e]
      obtain ⟨A, c, rfl, hl, hc⟩ := hb
      obtain ⟨A2, c2, rfl, hl2, hc2⟩ := hf
      clear hc hc2
      have t1 : ((bs.length : Int) != 26) = false := by simp; omega
      have t2 : ((fs.length : Int) != 26) = true := by simp; omega
      clear h1 h2
      go_enter Try.func16, Try.ntmps16
      go_wp2
      all_goals go_ret
      all_goals exact ⟨rfl, bl_alloc (Below.refl _ _) _⟩
  · have e : validM bs fs = false := by unfold validM; simp [h1]
    rw [e]
    obtain ⟨A, c, rfl, hl, hc⟩ := hb
    obtain ⟨A2, c2, rfl, hl2, hc2⟩ := hf
    clear hc hc2
    have t1 : ((bs.length : Int) != 26) = true := by simp; omega
    clear h1
    go_enter Try.func16, Try.ntmps16
    go_wp2
    all_goals go_ret
    all_goals exact ⟨rfl, bl_alloc (Below.refl _ _) _⟩

set_option maxHeartbeats 2000000 in
theorem rcost_any (v : Value) (bs fs : List Int) (s n : Int) (w : World) (h : RdM w v bs fs) :
    Calls Try.prog 19 #[v, .int .i64 s, .int .i64 n] w fun e w' => e = .returned (.int .i64 (costM bs fs s n)) ∧ Below w.heap.size w w' := by
  have H := Lib.hid h
  by_cases hv : validM bs fs = false ∨ s < 0 ∨ 26 ≤ s
  · have E := Lib.hid (show costM bs fs s n = 0 by unfold costM; rw [if_pos hv])
    obtain ⟨b, f, rfl, _, _⟩ := h
    cases hvv : validM bs fs
    · clear hv
      go_enter Try.func19, Try.ntmps19
      go_wp2_with (go_at_call 16; refine (rvalid_any _ bs fs _ (H.out.below (bl_alloc (Below.refl _ _) _))).mono ?_; rintro e w1 ⟨rfl, hb⟩)
      go_ret
      exact ⟨by rw [E.out]; rfl, bl_call (bl_alloc (Below.refl _ _) _) hb⟩
    · have hs : s < 0 ∨ 26 ≤ s := by rw [hvv] at hv; simpa using hv
      clear hv
      go_enter Try.func19, Try.ntmps19
      go_wp2_with (go_at_call 16; refine (rvalid_any _ bs fs _ (H.out.below (bl_alloc (Below.refl _ _) _))).mono ?_; rintro e w1 ⟨rfl, hb⟩)
      all_goals first
        | (exfalso; omega)
        | (go_ret; exact ⟨by rw [E.out]; rfl, bl_call (bl_alloc (Below.refl _ _) _) hb⟩)
        | go_ways
  · have hvv : validM bs fs = true := by
      cases h9 : validM bs fs
      · exact absurd (.inl h9) hv
      · rfl
    obtain ⟨k, rfl⟩ : ∃ k : Nat, s = k := ⟨s.toNat, by omega⟩
    have hk : k < 26 := by omega
    obtain ⟨l1, l2, hbd, _⟩ := valid_parts hvv
    obtain ⟨x1, x2, y1, y2⟩ := hbd k hk
    obtain ⟨b, f, rfl, hb, hf⟩ := h
    obtain ⟨A, c, rfl, hl, hc⟩ := hb
    obtain ⟨A2, c2, rfl, hl2, hc2⟩ := hf
    obtain ⟨ab, rfl, hab⟩ := hc.resolve_left (by rintro rfl; simp at l1)
    obtain ⟨af, rfl, haf⟩ := hc2.resolve_left (by rintro rfl; simp at l2)
    have qb := hab k (by omega)
    have qf := haf k (by omega)
    have E : Hid (costM bs fs k n = if (k : Int) = 20 then (if n < -1000 ∨ 1000 < n then 0 else bs.getD k 0 * n) else if n < 0 ∨ 4096 < n then 0 else bs.getD k 0 + n * fs.getD k 0) := Lib.hid (by
      unfold costM
      rw [if_neg hv]
      by_cases e : (k : Int) = 20
      · have : k = 20 := by omega
        subst this; rfl
      · simp [e])
    obtain ⟨x, hx⟩ : ∃ x, x = bs.getD k 0 := ⟨_, rfl⟩
    obtain ⟨y, hy⟩ : ∃ y, y = fs.getD k 0 := ⟨_, rfl⟩
    rw [← hx] at qb x1 x2 E
    rw [← hy] at qf y1 y2 E
    have HV := Lib.hid hvv
    rw [l1, l2] at H ⊢
    have hki : (k : Int) < 26 := by omega
    have hk0 : (0 : Int) ≤ (k : Int) := by omega
    clear hab haf hx hy l1 l2 hbd hv hc hc2 hl hl2
    by_cases e : (k : Int) = 20
    · have t20 : ((k : Int) == 20) = true := by simpa using e
      by_cases en : n < -1000 ∨ 1000 < n
      · have E0 := Lib.hid (show costM bs fs k n = 0 by rw [E.out, if_pos e, if_pos en])
        clear e
        go_enter Try.func19, Try.ntmps19
        go_wp2_with fail
        refine (rvalid_any _ bs fs _ (H.out.below (bl_alloc (Below.refl _ _) _))).mono ?_
        rintro e w1 ⟨rfl, hb⟩
        have HB := Lib.hid (bl_call (bl_alloc (Below.refl _ _) _) hb)
        obtain ⟨hc, hf⟩ := bcell hb
        have qb1 : w1.cell? (ab.add k) = some (.int .i64 x) := (HB.out.cell (World.block_lt_of_cell? w _ qb)).trans qb
        have qf1 : w1.cell? (af.add k) = some (.int .i64 y) := (HB.out.cell (World.block_lt_of_cell? w _ qf)).trans qf
        clear qb qf
        go_wp2
        all_goals first
          | (exfalso; omega)
          | (go_ret; exact ⟨by rw [E0.out]; rfl, HB.out⟩)
      · have E0 := Lib.hid (show costM bs fs k n = x * n by rw [E.out, if_pos e, if_neg en])
        obtain ⟨p1, p2⟩ := mul_bd (a := 1000) (b := 1000) x1 x2 (show -1000 ≤ n by omega) (show n ≤ 1000 by omega)
        have n1 : -1000 ≤ n := by omega
        have n2 : n ≤ 1000 := by omega
        clear e en
        go_enter Try.func19, Try.ntmps19
        go_wp2_with fail
        refine (rvalid_any _ bs fs _ (H.out.below (bl_alloc (Below.refl _ _) _))).mono ?_
        rintro e w1 ⟨rfl, hb⟩
        have HB := Lib.hid (bl_call (bl_alloc (Below.refl _ _) _) hb)
        obtain ⟨hc, hf⟩ := bcell hb
        have qb1 : w1.cell? (ab.add k) = some (.int .i64 x) := (HB.out.cell (World.block_lt_of_cell? w _ qb)).trans qb
        have qf1 : w1.cell? (af.add k) = some (.int .i64 y) := (HB.out.cell (World.block_lt_of_cell? w _ qf)).trans qf
        clear qb qf
        go_wp2
        all_goals first
          | (exfalso; omega)
          | (go_ret; exact ⟨by rw [E0.out]; rfl, HB.out⟩)
          | (trace_state; fail)
    · have t20 : ((k : Int) == 20) = false := by simpa using e
      by_cases en : n < 0 ∨ 4096 < n
      · have E0 := Lib.hid (show costM bs fs k n = 0 by rw [E.out, if_neg e, if_pos en])
        clear e
        go_enter Try.func19, Try.ntmps19
        go_wp2_with fail
        refine (rvalid_any _ bs fs _ (H.out.below (bl_alloc (Below.refl _ _) _))).mono ?_
        rintro e w1 ⟨rfl, hb⟩
        have HB := Lib.hid (bl_call (bl_alloc (Below.refl _ _) _) hb)
        obtain ⟨hc, hf⟩ := bcell hb
        have qb1 : w1.cell? (ab.add k) = some (.int .i64 x) := (HB.out.cell (World.block_lt_of_cell? w _ qb)).trans qb
        have qf1 : w1.cell? (af.add k) = some (.int .i64 y) := (HB.out.cell (World.block_lt_of_cell? w _ qf)).trans qf
        clear qb qf
        go_wp2
        all_goals first
          | (exfalso; omega)
          | (go_ret; exact ⟨by rw [E0.out]; rfl, HB.out⟩)
      · have E0 := Lib.hid (show costM bs fs k n = x + n * y by rw [E.out, if_neg e, if_neg en])
        obtain ⟨p1, p2⟩ := mul_bd (a := 4096) (b := 1000) (show -4096 ≤ n by omega) (show n ≤ 4096 by omega) y1 y2
        have n1 : 0 ≤ n := by omega
        have n2 : n ≤ 4096 := by omega
        clear e en
        go_enter Try.func19, Try.ntmps19
        go_wp2_with fail
        refine (rvalid_any _ bs fs _ (H.out.below (bl_alloc (Below.refl _ _) _))).mono ?_
        rintro e w1 ⟨rfl, hb⟩
        have HB := Lib.hid (bl_call (bl_alloc (Below.refl _ _) _) hb)
        obtain ⟨hc, hf⟩ := bcell hb
        have qb1 : w1.cell? (ab.add k) = some (.int .i64 x) := (HB.out.cell (World.block_lt_of_cell? w _ qb)).trans qb
        have qf1 : w1.cell? (af.add k) = some (.int .i64 y) := (HB.out.cell (World.block_lt_of_cell? w _ qf)).trans qf
        clear qb qf
        go_wp2
        go_quiet (fail)
        go_wp2
        all_goals first
          | (exfalso; omega)
          | (go_ret; exact ⟨by rw [E0.out]; rfl, bl_drewN HB.out _⟩)
          | (trace_state; fail)
end Go.Proofs.Ytbfgnpbkgegegaa
