import Derived.Test.YtbfgnpbkgegegaaQ1
import Derived.Test.YtbfgnpbkgegegaaV9
import Derived.Lib.AppendZerosOnto
namespace Go.Proofs.Ytbfgnpbkgegegaa
open Go.RowKit
set_option linter.unusedSimpArgs false
set_option linter.unusedVariables false

def heavyB (c : Int) : Bool := decide (c < -1000) || decide (1000 < c)
theorem heavy_any (c : Int) (w : World) : Calls Try.prog 47 #[.int .i64 c] w fun e w' => e = .returned (.bool (heavyB c)) ∧ w = w' := by
  go_enter Try.func47, Try.ntmps47
  go_wp2
  all_goals go_ret
  all_goals refine ⟨congrArg (fun b => Ending.returned (.bool b)) ?_, rfl⟩
  all_goals (unfold heavyB; simp [*])

set_option maxHeartbeats 1000000 in
theorem index_any47 (v : Value) (xs : List Int) (w : World) (h : Rd .i64 w v xs) :
    Calls Try.prog 49 #[v, .func (.func 47) #[] #[]] w fun e w' => PosSpec heavyB xs e ∧ w = w' := by
  obtain ⟨A, c, rfl, hl, hc⟩ := h
  have HC := Lib.hid hc
  clear hc
  go_enter Try.func49, Try.ntmps49
  go_wp2
  go_loop [5, 8] (fun u i => ∃ k : Nat, k ≤ xs.length ∧ i = .int .i64 k ∧ (xs.take k).any heavyB = false) (fun _ i => xs.length - (intOf i).toNat)
  case atStart => exact ⟨0, Nat.zero_le _, rfl, by simp⟩
  case round =>
    obtain ⟨k, hk, rfl, hn⟩ := hrel
    have HN := Lib.hid hn
    clear hn
    by_cases hlt : k < xs.length
    · have hne : xs ≠ [] := by rintro rfl; simp at hlt
      obtain ⟨ad, rfl, hcell⟩ := HC.out.resolve_left hne
      have h1 := hcell k hlt
      have hs := Lib.hid (any_take_snoc heavyB xs k hlt)
      have hg : xs.getD k 0 = xs[k] := by simp [List.getD_eq_getElem?_getD, List.getElem?_eq_getElem hlt]
      clear hcell hne
      cases hp : heavyB (xs.getD k 0)
      · rw [hg] at hp
        go_wp2_with (go_at_call 47; refine (heavy_any _ _).mono ?_; rintro e w' ⟨rfl, rfl⟩)
        go_round
        case rel => exact ⟨k + 1, by omega, by go_num, by rw [hs.out, HN.out, hg, hp]; rfl⟩
        case measure => simp [intOf]; omega
      · rw [hg] at hp
        go_wp2_with (go_at_call 47; refine (heavy_any _ _).mono ?_; rintro e w' ⟨rfl, rfl⟩)
        go_ret
        exact ⟨⟨k, rfl, by rw [any_of_take heavyB xs (k + 1) (by rw [hs.out, HN.out, hg, hp]; rfl)]; simp⟩, rfl⟩
    · go_wp2
      go_ret
      exact ⟨⟨-1, rfl, by have h9 := HN.out; rw [List.take_of_length_le (by omega)] at h9; rw [h9]; rfl⟩, rfl⟩

theorem contains_any47 (v : Value) (xs : List Int) (w : World) (h : Rd .i64 w v xs) :
    Calls Try.prog 39 #[v, .func (.func 47) #[] #[]] w fun e w' => e = .returned (.bool (xs.any heavyB)) ∧ w = w' := by
  go_enter Try.func39, Try.ntmps39
  go_wp2_with (go_at_call 49; refine (index_any47 _ _ _ h).mono ?_; rintro e w' ⟨⟨r, rfl, hr⟩, rfl⟩)
  go_ret
  exact ⟨rfl, rfl⟩


def badM (m : List Int × List Int) : Bool := !validM m.1 m.2
set_option maxHeartbeats 1000000 in
theorem inval_any (v : Value) (m : List Int × List Int) (w : World) (h : RdM w v m.1 m.2) :
    Calls Try.prog 46 #[v] w fun e w' => e = .returned (.bool (badM m)) ∧ Below w.heap.size w w' := by
  obtain ⟨bs, fs⟩ := m
  obtain ⟨b, f, rfl, hb, hf⟩ := h
  have H1 := Lib.hid hb
  have H2 := Lib.hid hf
  obtain ⟨A1, c1, rfl, l1, x1⟩ := hb
  obtain ⟨A2, c2, rfl, l2, x2⟩ := hf
  clear x1 x2
  have HE := Lib.hid (show badM (bs, fs) = !validM bs fs from rfl)
  go_enter Try.func46, Try.ntmps46
  go_wp2_with fail
  have HA := Lib.hid (show Below w.heap.size w (w.alloc (.cells #[.slice A1 bs.length c1, .slice A2 fs.length c2] 28)) from bl_alloc (Below.refl _ _) _)
  refine (valid_any _ bs fs _ ⟨_, _, rfl, H1.out.below HA.out, H2.out.below HA.out⟩).mono ?_
  rintro e w1 ⟨rfl, hb1⟩
  go_wp2_with fail
  go_ret
  exact ⟨by rw [HE.out]; rfl, bl_call HA.out hb1⟩

theorem bad_take_snoc (ms : List (List Int × List Int)) (k : Nat) (h : k < ms.length) : (ms.take (k + 1)).any badM = ((ms.take k).any badM || badM (ms.getD k ([], []))) := by
  rw [List.take_succ_eq_append_getElem h, List.any_append]
  simp [List.getD_eq_getElem?_getD, List.getElem?_eq_getElem h]
theorem bad_of_take (ms : List (List Int × List Int)) (k : Nat) (h : (ms.take k).any badM = true) : ms.any badM = true := by
  rw [← List.take_append_drop k ms, List.any_append, h]; rfl
def PosSpecM (ms : List (List Int × List Int)) (e : Ending) : Prop := ∃ r : Int, e = .returned (.int .i64 r) ∧ decide (0 ≤ r) = ms.any badM
set_option maxHeartbeats 2000000 in
theorem index_anyM (v : Value) (ms : List (List Int × List Int)) (w : World) (h : RdMs w v ms) :
    Calls Try.prog 51 #[v, .func (.func 46) #[] #[]] w fun e w' => PosSpecM ms e ∧ Below w.heap.size w w' := by
  obtain ⟨A, c, rfl, hl, hc⟩ := h
  have HC := Lib.hid hc
  obtain ⟨hl1, hl2⟩ := hl
  clear hc
  go_enter Try.func51, Try.ntmps51
  go_wp2
  go_loopw [5, 8] (fun _ i wr => ∃ k : Nat, k ≤ ms.length ∧ i = .int .i64 k ∧ (ms.take k).any badM = false ∧ Below w.heap.size w wr) (fun _ i _ => ms.length - (intOf i).toNat)
  case atStart => exact ⟨0, Nat.zero_le _, rfl, by simp, Below.refl _ _⟩
  case round =>
    obtain ⟨k, hk, rfl, hn, hb⟩ := hrel
    have HN := Lib.hid hn
    have HB := Lib.hid hb
    clear hn
    by_cases hlt : k < ms.length
    · have hne : ms ≠ [] := by rintro rfl; simp at hlt
      obtain ⟨ad, rfl, hcell⟩ := HC.out.resolve_left hne
      obtain ⟨b, f, q1, q2, hb1, hb2⟩ := (hcell k hlt).below hb
      have hs := Lib.hid (bad_take_snoc ms k hlt)
      obtain ⟨m, hm⟩ : ∃ m, m = ms.getD k ([], []) := ⟨_, rfl⟩
      rw [← hm] at hb1 hb2 hs
      have HM := Lib.hid (show RdM wr (.agg #[b, f]) m.1 m.2 from ⟨_, _, rfl, hb1, hb2⟩)
      obtain ⟨A1, c1, rfl, _, hx1⟩ := hb1
      obtain ⟨A2, c2, rfl, _, hx2⟩ := hb2
      clear hcell hne hm hx1 hx2 hb
      cases hp : badM m
      · have HP := Lib.hid hp
        have HT := Lib.hid (inval_any _ m wr HM.out)
        rw [hp] at HT
        clear hp
        go_wp2_with fail
        refine HT.out.mono ?_
        rintro e w' ⟨rfl, hb3⟩
        go_wp2_with fail
        go_roundw
        case measure => simp [intOf]; omega
        case rel => exact ⟨k + 1, by omega, by go_num, by rw [hs.out, HN.out, HP.out]; rfl, bl_call HB.out hb3⟩
      · have HP := Lib.hid hp
        have HT := Lib.hid (inval_any _ m wr HM.out)
        rw [hp] at HT
        clear hp
        go_wp2_with fail
        refine HT.out.mono ?_
        rintro e w' ⟨rfl, hb3⟩
        go_wp2_with fail
        go_ret
        exact ⟨⟨k, rfl, by rw [bad_of_take ms (k + 1) (by rw [hs.out, HN.out, HP.out]; rfl)]; simp⟩, bl_call HB.out hb3⟩
    · clear hb
      go_wp2_with fail
      go_ret
      exact ⟨⟨-1, rfl, by have h9 := HN.out; rw [List.take_of_length_le (by omega)] at h9; rw [h9]; rfl⟩, HB.out⟩
theorem contains_anyM (v : Value) (ms : List (List Int × List Int)) (w : World) (h : RdMs w v ms) :
    Calls Try.prog 45 #[v, .func (.func 46) #[] #[]] w fun e w' => e = .returned (.bool (ms.any badM)) ∧ Below w.heap.size w w' := by
  have HH := Lib.hid h
  obtain ⟨A, c, rfl, hl, hc⟩ := h
  clear hc
  go_enter Try.func45, Try.ntmps45
  go_wp2_with fail
  refine (index_anyM _ ms _ HH.out).mono ?_
  rintro e w' ⟨⟨r, rfl, hr⟩, hb⟩
  have HR := Lib.hid hr
  clear hr
  go_wp2_with fail
  go_ret
  exact ⟨by rw [← HR.out]; rfl, hb⟩
end Go.Proofs.Ytbfgnpbkgegegaa
