/- Walks of the reference: guess: whatever it guesses is at most 10^9. -/
import Derived.Test.YtikpdkgamcecjaaN6
import Derived.WalkLawsBesides
import Derived.IntWalk
namespace Go.Proofs.Ytikpdkgamcecjaa
open Go.RowKit
set_option linter.unusedSimpArgs false
set_option linter.unusedVariables false

theorem float_any (op : BinOp) (hop : op = .mul ∨ op = .add ∨ op = .quo) (t : TypeId) (x y : Nat) (w : World) : ∃ r w', (binOp op t (.float .f64 x) (.float .f64 y)).run Try.prog w = .ok (.float .f64 r) w' ∧ (w' = w ∨ w' = w.drew) := by
  cases h : floatBits op .f64 x y with
  | some r => exact ⟨r, w, run_float_arith w op t .f64 x y r h, .inl rfl⟩
  | none =>
    unfold floatBits at h
    by_cases hq : (Question.nanBits FloatKind.f64 x y).forced = true
    · rcases hop with rfl | rfl | rfl <;> simp only at h <;> simp [binOp, Op.floatArith, h, hq] <;> exact ⟨_, _, ⟨rfl, rfl⟩, .inl rfl⟩
    · rcases hop with rfl | rfl | rfl <;> simp only at h <;> simp [binOp, Op.floatArith, h, hq] <;> exact ⟨_, _, ⟨rfl, rfl⟩, .inr rfl⟩
theorem wrap_u64_bd (n : Int) : 0 ≤ IntKind.u64.wrap n ∧ IntKind.u64.wrap n ≤ 18446744073709551615 := by
  rw [IntKind.wrap_u64]; omega
theorem float_int (s d : TypeId) (hs : (Try.prog.underlying s) = some (.float .f64)) (hd : Try.prog.underlying d = some (.int .u64)) (b : Nat) (w : World) : ∃ n w', (convert s d (.float .f64 b)).run Try.prog w = .ok (.int .u64 n) w' ∧ (0 ≤ n ∧ n ≤ 18446744073709551615) ∧ (w' = w ∨ w' = w.drew) := by
  cases h : floatToIntVal .f64 b .u64 with
  | some n =>
    refine ⟨n, w, run_convert_float_int w s d .f64 .u64 b n (by rw [hs]; rfl) hd h, ?_, .inl rfl⟩
    unfold floatToIntVal at h
    split at h
    · split at h
      · rename_i hb
        cases h
        have e1 : IntKind.u64.min = 0 := rfl
        have e2 : IntKind.u64.max = 18446744073709551615 := rfl
        rw [e1, e2] at hb
        exact hb
      · cases h
    · cases h
  | none =>
    unfold floatToIntVal at h
    by_cases hq : (Question.floatToInt FloatKind.f64 b IntKind.u64).forced = true
    · split at h
      · rename_i m he
        split at h
        · cases h
        · rename_i hb
          refine ⟨IntKind.u64.wrap 0, w, ?_, wrap_u64_bd _, .inl rfl⟩
          simp [convert, run_underlying hs, run_underlying hd, Conv.floatToInt, he, hb, hq]
      · rename_i he
        refine ⟨IntKind.u64.wrap 0, w, ?_, wrap_u64_bd _, .inl rfl⟩
        simp [convert, run_underlying hs, run_underlying hd, Conv.floatToInt, he, hq]
    · split at h
      · rename_i m he
        split at h
        · cases h
        · rename_i hb
          refine ⟨IntKind.u64.wrap (((Question.floatToInt FloatKind.f64 b IntKind.u64).cut (w.tape w.drawn (Question.floatToInt FloatKind.f64 b IntKind.u64)) : Nat) : Int), w.drew, ?_, wrap_u64_bd _, .inr rfl⟩
          simp [convert, run_underlying hs, run_underlying hd, Conv.floatToInt, he, hb, hq]
      · rename_i he
        refine ⟨IntKind.u64.wrap (((Question.floatToInt FloatKind.f64 b IntKind.u64).cut (w.tape w.drawn (Question.floatToInt FloatKind.f64 b IntKind.u64)) : Nat) : Int), w.drew, ?_, wrap_u64_bd _, .inr rfl⟩
        simp [convert, run_underlying hs, run_underlying hd, Conv.floatToInt, he, hq]
theorem float_fn (op : BinOp) (hop : op = .mul ∨ op = .add ∨ op = .quo) (t : TypeId) : ∃ (F : Nat → Nat → World → Nat) (G : Nat → Nat → World → World), ∀ x y W, (binOp op t (.float .f64 x) (.float .f64 y)).run Try.prog W = .ok (.float .f64 (F x y W)) (G x y W) ∧ (G x y W = W ∨ G x y W = W.drew) :=
  ⟨fun x y W => (float_any op hop t x y W).choose, fun x y W => (float_any op hop t x y W).choose_spec.choose, fun x y W => (float_any op hop t x y W).choose_spec.choose_spec⟩
theorem float_int_fn (s d : TypeId) (hs : (Try.prog.underlying s) = some (.float .f64)) (hd : Try.prog.underlying d = some (.int .u64)) : ∃ (F : Nat → World → Int) (G : Nat → World → World), ∀ b W, (convert s d (.float .f64 b)).run Try.prog W = .ok (.int .u64 (F b W)) (G b W) ∧ (0 ≤ F b W ∧ F b W ≤ 18446744073709551615) ∧ (G b W = W ∨ G b W = W.drew) :=
  ⟨fun b W => (float_int s d hs hd b W).choose, fun b W => (float_int s d hs hd b W).choose_spec.choose, fun b W => (float_int s d hs hd b W).choose_spec.choose_spec⟩
theorem bl_or {B : Nat} {w W W1 : World} (h : Below B w W) (h1 : W1 = W ∨ W1 = W.drew) : Below B w W1 := by
  rcases h1 with rfl | rfl
  · exact h
  · exact bl_drew h

set_option maxHeartbeats 4000000 in
theorem guess_any (v u : Value) (xs ys : List Int) (w : World) (hx : Rd .u32 w v xs) (hy : Rd .u32 w u ys) (lx : Lb xs) (ly : Lb ys) (hy2 : 2 ≤ ys.length) (hlast : 0 < ys.getD (ys.length - 1) 0) :
    Calls Try.prog 89 #[v, u] w fun e w' => ∃ d : Int, e = .returned (.int .u64 d) ∧ 0 ≤ d ∧ d ≤ 1000000000 ∧ Below w.heap.size w w' := by
  have HX := Lib.hid hx
  have HY := Lib.hid hy
  have LX := Lib.hid lx
  have LY := Lib.hid ly
  obtain ⟨A, c1, rfl, ⟨l1, l2⟩, _⟩ := hx
  obtain ⟨A2, c2, rfl, ⟨l3, l4⟩, _⟩ := hy
  clear lx ly
  by_cases h1 : xs.length < ys.length
  · go_enter Try.func89, Try.ntmps89
    go_wp2
    go_ret
    exact ⟨0, rfl, by omega, by omega, Below.refl _ _⟩
  · obtain ⟨p, hp⟩ : ∃ p, ys.length = p + 2 := ⟨ys.length - 2, by omega⟩
    obtain ⟨ad2, rfl, _, b1⟩ := HY.out.at_ (i := p + 1) (by omega)
    obtain ⟨_, e2, _, b0⟩ := HY.out.at_ (i := p) (by omega)
    injection e2 with e2
    subst e2
    obtain ⟨ad, rfl, _, a1⟩ := HX.out.at_ (i := p + 1) (by omega)
    obtain ⟨_, e2, _, a0⟩ := HX.out.at_ (i := p) (by omega)
    injection e2 with e2
    subst e2
    obtain ⟨y1a, y1b⟩ := LY.out.all (p + 1)
    obtain ⟨y0a, y0b⟩ := LY.out.all p
    obtain ⟨x1a, x1b⟩ := LX.out.all (p + 1)
    obtain ⟨x0a, x0b⟩ := LX.out.all p
    rw [show ys.length - 1 = p + 1 by omega] at hlast
    obtain ⟨y1, e⟩ : ∃ z, z = ys.getD (p + 1) 0 := ⟨_, rfl⟩
    rw [← e] at b1 y1a y1b hlast
    clear e
    obtain ⟨y0, e⟩ : ∃ z, z = ys.getD p 0 := ⟨_, rfl⟩
    rw [← e] at b0 y0a y0b
    clear e
    obtain ⟨x1, e⟩ : ∃ z, z = xs.getD (p + 1) 0 := ⟨_, rfl⟩
    rw [← e] at a1 x1a x1b
    clear e
    obtain ⟨x0, e⟩ : ∃ z, z = xs.getD p 0 := ⟨_, rfl⟩
    rw [← e] at a0 x0a x0b
    clear e
    have HYL := Lib.hid hp
    rw [hp] at l3 l4 h1 ⊢
    clear hy2
    obtain ⟨n, hn⟩ : ∃ n : Nat, n = p + 2 := ⟨_, rfl⟩
    obtain ⟨q, hq⟩ : ∃ q : Nat, q = p + 1 := ⟨_, rfl⟩
    rw [← hn] at l3 l4 h1 ⊢
    rw [← hq] at b1 a1
    have hn2 : (2 : Int) ≤ n := by omega
    have hn3 : (n : Int) ≤ 9223372036854775807 := by omega
    have hw1 : IntKind.i64.wrap ((n : Int) - 1) = (q : Int) := by rw [IntWalk.i64_in _ (by omega)]; omega
    have hw2 : IntKind.i64.wrap ((n : Int) - 2) = (p : Int) := by rw [IntWalk.i64_in _ (by omega)]; omega
    have hq1 : q < n := by omega
    have hp1 : p < n := by omega
    clear hn hp hq
    by_cases h2 : xs.length = n
    · rw [h2] at l1 l2 ⊢
      go_enter Try.func89, Try.ntmps89
      go_wp2
      go_quiet (fail)
      go_wp2
      go_quiet (fail)
      go_wp2
      go_ret
      refine ⟨_, rfl, Int.ediv_nonneg (by omega) (by omega), ?_, by repeat (first | exact Below.refl _ _ | refine bl_drewN ?_ _ | refine bl_drew ?_)⟩
      have h9 : (x1 * 1000000000 + x0) / (y1 * 1000000000 + y0) < 1000000000 := Int.ediv_lt_of_lt_mul (by omega) (by omega)
      omega
    · obtain ⟨_, e2, _, a2⟩ := HX.out.at_ (i := n) (by omega)
      injection e2 with e2
      subst e2
      obtain ⟨x2a, x2b⟩ := LX.out.all n
      obtain ⟨x2, e⟩ : ∃ z, z = xs.getD n 0 := ⟨_, rfl⟩
      rw [← e] at a2 x2a x2b
      clear e
      have h3 : n < xs.length := by omega
      obtain ⟨Fm, Gm, hm⟩ := float_fn .mul (.inl rfl) 77
      obtain ⟨Fa, Ga, ha⟩ := float_fn .add (.inr (.inl rfl)) 77
      obtain ⟨Fq, Gq, hq'⟩ := float_fn .quo (.inr (.inr rfl)) 77
      obtain ⟨Fc, Gc, hc⟩ := float_int_fn 77 54 Try.underlying77 Try.underlying54
      have hm1 := fun x y W => (hm x y W).1
      have ha1 := fun x y W => (ha x y W).1
      have hq2 := fun x y W => (hq' x y W).1
      have hc1 := fun b W => (hc b W).1
      have HM := Lib.hid (fun x y W => (hm x y W).2)
      have HAA := Lib.hid (fun x y W => (ha x y W).2)
      have HQQ := Lib.hid (fun x y W => (hq' x y W).2)
      have HCC := Lib.hid (fun b W => (hc b W).2.2)
      clear hm ha hq' hc
      go_enter Try.func89, Try.ntmps89
      go_wp2
      go_quiet (fail)
      go_wp2
      go_quiet (fail)
      go_wp2
      all_goals go_ret
      all_goals refine ⟨_, rfl, ?_, ?_, bl_or (bl_or (bl_or (bl_or (by first | exact bl_drewN (Below.refl _ _) _ | exact bl_drewN (bl_drewN (Below.refl _ _) _) _) (HM.out _ _ _)) (HAA.out _ _ _)) (HQQ.out _ _ _)) (HCC.out _ _)⟩
      all_goals first
        | exact (wrap_u64_bd _).1
        | omega
        | fail
end Go.Proofs.Ytikpdkgamcecjaa
