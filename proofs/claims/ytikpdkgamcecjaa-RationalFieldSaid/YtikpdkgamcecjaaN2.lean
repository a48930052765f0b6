/- Walks of the reference: limbs. -/
import Derived.Test.YtikpdkgamcecjaaN1
namespace Go.Proofs.Ytikpdkgamcecjaa
open Go.RowKit
set_option linter.unusedSimpArgs false
set_option linter.unusedVariables false

theorem one_read {k : IntKind} {w : World} {x : Int} {t : TypeId} : Reads (w.alloc (.cells #[.int k x] t)) (w.heap.size + 1) 1 (some ⟨w.heap.size, 0, none⟩) 1 [.int k x] := by
  have h := (rd_blk (k := k) (xs := [x]) (n := 1) (c := 1) (blk_new w (.cells #[.int k x] t)) rfl (by simp) (by simp) (fun j hj => by
    have : j = 0 := by simp at hj; omega
    subst this; rfl)).reads.2
  simpa using h
set_option maxRecDepth 100000 in
set_option maxHeartbeats 2000000 in
theorem rlimbs_any (ok : Nat → Prop) (n : Nat) (w : World) (hok : ∀ b, w.heap.size ≤ b → ok b) (hn : (n : Int) < 18446744073709551616) :
    Calls Try.prog 64 #[.int .u64 n] w fun e w' => ∃ r, e = .returned r ∧ Rdf .u32 w' ok r (limbs n) ∧ Below w.heap.size w w' := by
  obtain ⟨i0, hi0, hz0, hz1, hz2⟩ := info_parts info_u32
  have HOK := Lib.hid hok
  have HL := Lib.hid (show (limbs n).length ≤ 3 from limbs_len (by omega))
  clear hok
  go_enter Try.func64, Try.ntmps64
  go_wp2
  go_loopw [0, 3] (fun a v wr => ∃ (m : Int) (ys : List Int), a = .int .u64 m ∧ (0 ≤ m ∧ m < 18446744073709551616) ∧ wr.ownsRow w.heap.size 43 1 v ys.length (ys.map (Value.int .u32)) ∧ ys ++ limbs m.toNat = limbs n ∧ Below w.heap.size w wr) (fun a _ _ => (intOf a).toNat)
  case atStart => exact ⟨n, [], rfl, ⟨by omega, hn⟩, own_nilu _ _, by rw [Int.toNat_natCast]; rfl, Below.refl _ _⟩
  case round =>
    obtain ⟨m, ys, rfl, ⟨hm0, hm⟩, ho, he, hb⟩ := hrel
    have HO := Lib.hid ho
    have HE := Lib.hid he
    have HB := Lib.hid hb
    have hyl : ys.length ≤ 3 := by have := HL.out; rw [← he, List.length_append] at this; omega
    have hsz := hb.size
    clear ho he hb
    by_cases h0 : m = 0
    · subst h0
      go_wp2_with fail
      go_ret
      exact ⟨_, rfl, by have h9 := HE.out; rw [Int.toNat_zero, limbs_zero, List.append_nil] at h9; rw [← h9]; exact own_rdf (k := .u32) HO.out HOK.out, HB.out⟩
    · have hp : (0 : Int) < m := by omega
      have HP := Lib.hid (limbs_pos (n := m.toNat) (by omega))
      clear h0
      go_wp2_with (first
        | (at_builtin
           refine wpList_append_any _ rfl (.tmp 6) (.tmp 10) _ rfl w.heap.size 43 i0 _ 1 4 Try.underlying22 hi0 hz0 hz1 hz2 rfl (by omega) _ ys.length _ rfl
             (HO.out.alloc _) (wr.heap.size + 1) (some ⟨wr.heap.size, 0, none⟩) 1 1 _ rfl one_read (by intro u hu; simp at hu; subst hu; rfl) (by simp only [maxLen]; omega) (by omega) (by simp; omega) ?_
           intro v1 w1 hown1 hg1 hat1
           have hbw1 : Below w.heap.size w w1 := (bl_alloc HB.out _).grown hg1 (by simp; omega) (fun g hg => (HO.out.lt g hg).1)))
      go_roundw
      case measure => simp [intOf]; omega
      case rel =>
        refine ⟨m / 1000000000, ys ++ [m % 1000000000], rfl, ⟨by omega, by omega⟩, ?_, ?_, hbw1⟩
        · simpa using hown1
        · rw [← HE.out, HP.out, List.append_assoc]
          have e1 : (m / 1000000000).toNat = m.toNat / 1000000000 := by omega
          have e2 : ((m.toNat % 1000000000 : Nat) : Int) = m % 1000000000 := by omega
          rw [e1, e2]; rfl
end Go.Proofs.Ytikpdkgamcecjaa
