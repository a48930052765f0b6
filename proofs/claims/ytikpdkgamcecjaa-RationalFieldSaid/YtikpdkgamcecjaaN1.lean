/- Walks of the reference: cut, limbs. -/
import Derived.Test.YtikpdkgamcecjaaR2
import Derived.Test.YtikpdkgamcecjaaM3
namespace Go.Proofs.Ytikpdkgamcecjaa
open Go.RowKit
set_option linter.unusedSimpArgs false
set_option linter.unusedVariables false

theorem Rd.cutc {k : IntKind} {w : World} {A : Option Addr} {n c m : Nat} {xs : List Int} (h : Rd k w (.slice A n c) xs) (hm : m ≤ xs.length) : Rd k w (.slice A m c) (xs.take m) := by
  obtain ⟨A', c', h1, ⟨h2, h2'⟩, h3⟩ := h
  injection h1 with e1 e2 e3
  subst e1; subst e3
  have hl : (xs.take m).length = m := by rw [List.length_take]; omega
  refine ⟨A, c, by rw [hl], ⟨by omega, by omega⟩, ?_⟩
  rcases h3 with rfl | ⟨ad, h4, h5⟩
  · left; simp
  · right
    refine ⟨ad, h4, fun j hj => ?_⟩
    rw [h5 j (by omega)]
    simp [List.getD_eq_getElem?_getD, List.getElem?_take, show j < m by omega]
theorem own_nilu (w : World) (base : Nat) : w.ownsRow base 43 1 (.slice none 0 0) 0 [] := ⟨rfl, .inl ⟨rfl, rfl⟩⟩

set_option maxRecDepth 100000 in
set_option maxHeartbeats 2000000 in
theorem rcut_any (ok : Nat → Prop) (v : Value) (xs : List Int) (w : World) (hok : ∀ b, w.heap.size ≤ b → ok b) (h : Rd .u32 w v xs) (hlb : Lb xs) (hnn : xs.length ≤ 16777217) :
    Calls Try.prog 84 #[v] w fun e w' => ∃ r, e = .returned r ∧ Rdf .u32 w' ok r (limbs (val xs).toNat) ∧ Below w.heap.size w w' := by
  obtain ⟨i0, hi0, hz0, hz1, hz2⟩ := info_parts info_u32
  have H := Lib.hid h
  have HLB := Lib.hid hlb
  have HOK := Lib.hid hok
  obtain ⟨A, c, rfl, ⟨hl1, hl2⟩, _⟩ := h
  clear hlb hok
  go_enter Try.func84, Try.ntmps84
  go_wp2
  go_loop [3] (fun u => ∃ n : Nat, n ≤ xs.length ∧ u = .int .i64 n ∧ ∀ j, n ≤ j → xs.getD j 0 = 0) (fun u => (intOf u).toNat)
  case atStart => exact ⟨xs.length, Nat.le_refl _, rfl, fun j hj => getD_of_ge hj⟩
  case round =>
    obtain ⟨n, hn, rfl, hz⟩ := hrel
    have HZ := Lib.hid hz
    clear hz
    have HR := Lib.hid ((H.out.cutc hn).reads.2)
    by_cases h0 : n = 0
    · subst h0
      have HT := Lib.hid (take_limbs HLB.out 0 (by omega) HZ.out (.inl rfl))
      go_wp2_with (first
        | (at_builtin
           refine wpList_append_any _ rfl (.const (.slice none 0 0)) (.tmp 20) _ rfl w.heap.size 43 i0 _ 1 4 Try.underlying22 hi0 hz0 hz1 hz2 rfl (by omega) (.slice none 0 0) 0 [] rfl
             (own_nilu _ _) w.heap.size A 0 c ((xs.take 0).map (Value.int .u32)) rfl HR.out (one_ints _ _) (by simp only [maxLen]; omega) (by omega) (Nat.le_refl _) ?_
           intro v1 w1 hown1 hg1 hat1
           have hbw1 : Below w.heap.size w w1 := (Below.refl _ _).grown hg1 (Nat.le_refl _) (by simp [Value.ownBlock])))
      go_ret
      exact ⟨v1, rfl, by rw [← HT.out]; exact own_rdf (k := .u32) (n := 0 + 0) (by simpa using hown1) HOK.out, hbw1⟩
    · obtain ⟨ad, rfl, _, hc⟩ := H.out.at_ (i := n - 1) (by omega)
      obtain ⟨x, hx⟩ : ∃ x, x = xs.getD (n - 1) 0 := ⟨_, rfl⟩
      rw [← hx] at hc
      have HX := Lib.hid hx
      clear hx
      have hp : (0 : Int) < n := by omega
      have hc' : w.cell? (ad.add ((n : Int) - 1).toNat) = some (.int .u32 x) := by rw [show ((n : Int) - 1).toNat = n - 1 by omega]; exact hc
      by_cases hx0 : x = 0
      · have t : (x == 0) = true := by simpa using hx0
        go_wp2
        go_round
        case measure => simp [intOf]; omega
        case rel =>
          refine ⟨n - 1, by omega, by congr 1; omega, fun j hj => ?_⟩
          by_cases e : j = n - 1
          · rw [e, ← HX.out, hx0]
          · exact HZ.out j (by omega)
      · have t : (x == 0) = false := by simpa using hx0
        have HT := Lib.hid (take_limbs HLB.out n (by omega) HZ.out (.inr (by rw [← HX.out]; exact hx0)))
        go_wp2_with (first
          | (at_builtin
             refine wpList_append_any _ rfl (.const (.slice none 0 0)) (.tmp 20) _ rfl w.heap.size 43 i0 _ 1 4 Try.underlying22 hi0 hz0 hz1 hz2 rfl (by omega) (.slice none 0 0) 0 [] rfl
               (own_nilu _ _) w.heap.size (some ad) n c ((xs.take n).map (Value.int .u32)) rfl HR.out (one_ints _ _) (by simp only [maxLen]; omega) (by omega) (Nat.le_refl _) ?_
             intro v1 w1 hown1 hg1 hat1
             have hbw1 : Below w.heap.size w w1 := (Below.refl _ _).grown hg1 (Nat.le_refl _) (by simp [Value.ownBlock])))
        go_ret
        exact ⟨v1, rfl, by rw [← HT.out]; exact own_rdf (k := .u32) hown1 HOK.out, hbw1⟩
end Go.Proofs.Ytikpdkgamcecjaa
