/- Walks: trim. -/
import Derived.Test.YtikpdkgamcecjaaW1
import Derived.Test.YtikpdkgamcecjaaM0
import Derived.Deep.QuietTactic
import Derived.BigQuiet
import Derived.Laws.MakeOwn
namespace Go.Proofs.Ytikpdkgamcecjaa
open Go.RowKit
set_option linter.unusedSimpArgs false
set_option linter.unusedVariables false

theorem Rd.cut {k : IntKind} {w : World} {A : Option Addr} {n c m : Nat} {xs : List Int} (h : Rd k w (.slice A n c) xs) (hm : m ≤ xs.length) : Rd k w (.slice A m m) (xs.take m) := by
  obtain ⟨A', c', h1, ⟨h2, h2'⟩, h3⟩ := h
  injection h1 with e1 e2 e3
  subst e1
  have hl : (xs.take m).length = m := by rw [List.length_take]; omega
  refine ⟨A, m, by rw [hl], ⟨by omega, by omega⟩, ?_⟩
  rcases h3 with rfl | ⟨ad, h4, h5⟩
  · left; simp
  · right
    refine ⟨ad, h4, fun j hj => ?_⟩
    rw [h5 j (by omega)]
    simp [List.getD_eq_getElem?_getD, List.getElem?_take, show j < m by omega]
theorem Rdf.cut {k : IntKind} {w : World} {ok : Nat → Prop} {A : Option Addr} {n c m : Nat} {xs : List Int} (h : Rdf k w ok (.slice A n c) xs) (hm : m ≤ xs.length) : Rdf k w ok (.slice A m m) (xs.take m) :=
  fun w' hw => (h w' hw).cut hm

set_option maxHeartbeats 1000000 in
theorem trim_any (ok : Nat → Prop) (v : Value) (xs : List Int) (w : World) (h : Rdf .u32 w ok v xs) (hlb : Lb xs) :
    Calls Try.prog 81 #[v] w fun e w' => ∃ r, e = .returned r ∧ Rdf .u32 w ok r (limbs (val xs).toNat) ∧ w = w' := by
  have H := Lib.hid h
  have HLB := Lib.hid hlb
  obtain ⟨A, c, rfl, ⟨hl1, hl2⟩, _⟩ := h.now
  clear hlb h
  go_enter Try.func81, Try.ntmps81
  go_wp2
  go_loop [3] (fun u => ∃ n : Nat, n ≤ xs.length ∧ u = .int .i64 n ∧ ∀ j, n ≤ j → xs.getD j 0 = 0) (fun u => (intOf u).toNat)
  case atStart => exact ⟨xs.length, Nat.le_refl _, rfl, fun j hj => getD_of_ge hj⟩
  case round =>
    obtain ⟨n, hn, rfl, hz⟩ := hrel
    have HZ := Lib.hid hz
    clear hz
    by_cases h0 : n = 0
    · subst h0
      have HT := Lib.hid (take_limbs HLB.out 0 (by omega) HZ.out (.inl rfl))
      go_wp2
      go_ret
      exact ⟨_, rfl, by rw [← HT.out]; exact H.out.cut (by omega), rfl⟩
    · obtain ⟨ad, rfl, _, hc⟩ := H.out.now.at_ (i := n - 1) (by omega)
      obtain ⟨x, hx⟩ : ∃ x, x = xs.getD (n - 1) 0 := ⟨_, rfl⟩
      rw [← hx] at hc
      have HX := Lib.hid hx
      clear hx
      have hp : (0 : Int) < n := by omega
      have hc' : w.cell? (ad.add ((n : Int) - 1).toNat) = some (.int .u32 x) := by rw [show ((n : Int) - 1).toNat = n - 1 by omega]; exact hc
      by_cases hx0 : x = 0
      · have t : (x == 0) = true := by simpa using hx0
        go_wp2
        go_round
        case measure => simp [intOf]; omega
        case rel =>
          refine ⟨n - 1, by omega, by congr 1; omega, fun j hj => ?_⟩
          by_cases e : j = n - 1
          · rw [e, ← HX.out, hx0]
          · exact HZ.out j (by omega)
      · have t : (x == 0) = false := by simpa using hx0
        have HT := Lib.hid (take_limbs HLB.out n (by omega) HZ.out (.inr (by rw [← HX.out]; exact hx0)))
        go_wp2
        go_ret
        exact ⟨_, rfl, by rw [← HT.out]; exact H.out.cut (by omega), rfl⟩
end Go.Proofs.Ytikpdkgamcecjaa
