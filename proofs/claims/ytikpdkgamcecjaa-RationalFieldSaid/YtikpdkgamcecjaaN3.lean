/- Walks of the reference: nat. -/
import Derived.Test.YtikpdkgamcecjaaN2
import Derived.Test.YtikpdkgamcecjaaR13
namespace Go.Proofs.Ytikpdkgamcecjaa
open Go.RowKit
set_option linter.unusedSimpArgs false
set_option linter.unusedVariables false

theorem val_snoc (xs : List Int) (d : Int) : val (xs ++ [d]) = val xs + d * 1000000000 ^ xs.length := by
  induction xs with
  | nil => simp [val]
  | cons x xs ih =>
    simp only [List.cons_append, val, ih, List.length_cons, Int.pow_succ, Int.mul_add]
    rw [← Int.add_assoc, Int.mul_comm (1000000000 ^ xs.length) 1000000000, ← Int.mul_assoc d, Int.mul_comm d 1000000000, Int.mul_assoc]
theorem lb_snoc2 {xs : List Int} {d : Int} (h : Lb xs) (h1 : 0 ≤ d) (h2 : d < 1000000000) : Lb (xs ++ [d]) := by
  induction xs with
  | nil => exact lb_cons.2 ⟨⟨h1, h2⟩, lb_nil⟩
  | cons x xs ih => exact lb_cons.2 ⟨(lb_cons.1 h).1, ih (lb_cons.1 h).2⟩
/-- nat, k limbs on. -/
def NT (xs ys : List Int) (c : Int) (k : Nat) : Prop := ys.length = k ∧ Lb ys ∧ 0 ≤ c ∧ c ≤ 4 ∧ val ys + c * 1000000000 ^ k = vs xs k
theorem NT.next {xs ys : List Int} {c x : Int} {k : Nat} (h : NT xs ys c k) (hx : x = xs.getD k 0) (h0 : 0 ≤ x) (h1 : x < 4294967296) : NT xs (ys ++ [(c + x) % 1000000000]) ((c + x) / 1000000000) (k + 1) := by
  obtain ⟨a1, a2, a3, a4, a5⟩ := h
  refine ⟨by simp [a1], lb_snoc2 a2 (by omega) (by omega), by omega, by omega, ?_⟩
  rw [val_snoc, a1]
  simp only [vs]
  rw [← a5, ← hx]
  have e := Int.emod_add_mul_ediv (c + x) 1000000000
  have e2 : (c + x) / 1000000000 * 1000000000 ^ (k + 1) = 1000000000 * ((c + x) / 1000000000) * 1000000000 ^ k := by
    rw [Int.pow_succ, Int.mul_comm (1000000000 ^ k), ← Int.mul_assoc, Int.mul_comm _ 1000000000]
  rw [e2, Int.add_assoc, ← Int.add_mul, e, Int.add_mul, ← Int.add_assoc]
set_option maxRecDepth 100000 in
set_option maxHeartbeats 4000000 in
theorem rnat_any (ok : Nat → Prop) (v : Value) (xs : List Int) (w : World) (hok : ∀ b, w.heap.size ≤ b → ok b) (h : Rd .u32 w v xs) (hu : U32 xs) (hnn : xs.length ≤ 16777216) :
    Calls Try.prog 82 #[v] w fun e w' => ∃ r, e = .returned r ∧ Rdf .u32 w' ok r (limbs (val xs).toNat) ∧ Below w.heap.size w w' := by
  obtain ⟨i0, hi0, hz0, hz1, hz2⟩ := info_parts info_u32
  have H := Lib.hid h
  have HU := Lib.hid hu
  have HOK := Lib.hid hok
  obtain ⟨A, c, rfl, ⟨hl1, hl2⟩, hx⟩ := h
  have HC := Lib.hid hx
  clear hx hok hu
  go_enter Try.func82, Try.ntmps82
  go_wp2
  go_loopw [3, 4, 5] (fun v a i wr => ∃ (k : Nat) (c : Int) (ys : List Int), k ≤ xs.length ∧ i = .int .i64 k ∧ a = .int .u64 c ∧ NT xs ys c k ∧ wr.ownsRow w.heap.size 43 1 v ys.length (ys.map (Value.int .u32)) ∧ Below w.heap.size w wr) (fun _ _ i _ => xs.length - (intOf i).toNat)
  case atStart => exact ⟨0, 0, [], Nat.zero_le _, rfl, rfl, ⟨rfl, lb_nil, by omega, by omega, by simp [val, vs]⟩, own_nilu _ _, Below.refl _ _⟩
  case round =>
    obtain ⟨k, c, ys, hk, rfl, rfl, hns, ho, hb⟩ := hrel
    have HN := Lib.hid hns
    have HO := Lib.hid ho
    have HB := Lib.hid hb
    have hyl : ys.length = k := hns.1
    have hc0 : 0 ≤ c := hns.2.2.1
    have hc4 : c ≤ 4 := hns.2.2.2.1
    have HYL := Lib.hid hyl
    have hyl2 : ys.length ≤ 16777216 := by omega
    have hsz := hb.size
    clear hns ho hyl
    by_cases hlt : k < xs.length
    · have hne : xs ≠ [] := by rintro rfl; simp at hlt
      obtain ⟨ad, rfl, hcell⟩ := HC.out.resolve_left hne
      have h1 : wr.cell? (ad.add k) = some (.int .u32 (xs.getD k 0)) := (hb.cell (World.block_lt_of_cell? w _ (hcell k hlt))).trans (hcell k hlt)
      obtain ⟨hx0, hx1⟩ := HU.out k hlt
      obtain ⟨x, hx⟩ : ∃ x, x = xs.getD k 0 := ⟨_, rfl⟩
      rw [← hx] at h1 hx0 hx1
      have HX := Lib.hid hx
      clear hcell hne hx hb
      go_wp2_with (first
        | (at_builtin
           refine wpList_append_any _ rfl (.tmp 19) (.tmp 23) _ rfl w.heap.size 43 i0 _ 1 4 Try.underlying22 hi0 hz0 hz1 hz2 rfl (by omega) _ ys.length _ rfl
             (HO.out.alloc _) (wr.heap.size + 1) (some ⟨wr.heap.size, 0, none⟩) 1 1 _ rfl one_read (by intro u hu; simp at hu; subst hu; rfl) (by simp only [maxLen]; omega) (by omega) (by simp; omega) ?_
           intro v1 w1 hown1 hg1 hat1
           have hbw1 : Below w.heap.size w w1 := (bl_alloc HB.out _).grown hg1 (by simp; omega) (fun g hg => (HO.out.lt g hg).1)))
      go_roundw
      case measure => simp [intOf]; omega
      case rel =>
        refine ⟨k + 1, (c + x) / 1000000000, ys ++ [(c + x) % 1000000000], by omega, by go_num, rfl, HN.out.next HX.out hx0 hx1, ?_, hbw1⟩
        simpa using hown1
    · obtain rfl : k = xs.length := by omega
      have HV := Lib.hid (show val ys + c * 1000000000 ^ xs.length = val xs from by rw [HN.out.2.2.2.2, vs_val])
      clear hb
      by_cases h0 : c = 0
      · subst h0
        have HR := Lib.hid (own_rd (k := .u32) HO.out).1
        have HE := Lib.hid (show val ys = val xs by have := HV.out; simpa using this)
        go_wp2_with fail
        refine (rcut_any ok _ ys _ (fun b hb => HOK.out b (by omega)) HR.out HN.out.2.1 (by omega)).mono ?_
        rw [HE.out]
        rintro e w2 ⟨r, rfl, hr, hb2⟩
        have HR2 := Lib.hid hr
        clear hr
        go_wp2_with fail
        go_ret
        exact ⟨_, rfl, HR2.out, bl_call HB.out hb2⟩
      · have hp : 0 < c := by omega
        clear h0
        go_wp2_with (first
          | (at_builtin
             refine wpList_append_any _ rfl (.tmp 29) (.tmp 32) _ rfl w.heap.size 43 i0 _ 1 4 Try.underlying22 hi0 hz0 hz1 hz2 rfl (by omega) _ ys.length _ rfl
               (HO.out.alloc _) (wr.heap.size + 1) (some ⟨wr.heap.size, 0, none⟩) 1 1 _ rfl one_read (by intro u hu; simp at hu; subst hu; rfl) (by simp only [maxLen]; omega) (by omega) (by simp; omega) ?_
             intro v1 w1 hown1 hg1 hat1
             have hbw1 : Below w.heap.size w w1 := (bl_alloc HB.out _).grown hg1 (by simp; omega) (fun g hg => (HO.out.lt g hg).1)
             have HR := Lib.hid (own_rd (k := .u32) (xs := ys ++ [c]) (by simpa using hown1)).1
             have hsz1 := hbw1.size
             clear hown1 hg1 hat1))
        have HE := Lib.hid (show val (ys ++ [c]) = val xs by rw [val_snoc, HYL.out]; exact HV.out)
        refine (rcut_any ok _ (ys ++ [c]) _ (fun b hb => HOK.out b (by omega)) HR.out (lb_snoc2 HN.out.2.1 (by omega) (by omega)) (by simp; omega)).mono ?_
        rw [HE.out]
        rintro e w2 ⟨r, rfl, hr, hb2⟩
        have HR2 := Lib.hid hr
        clear hr
        go_wp2_with fail
        go_ret
        exact ⟨_, rfl, HR2.out, bl_call hbw1 hb2⟩
end Go.Proofs.Ytikpdkgamcecjaa
