import Derived.Test.YtbfgnpbkgegegaaV8
namespace Go.Proofs.Ytbfgnpbkgegegaa
open Go.RowKit
set_option linter.unusedSimpArgs false
set_option linter.unusedVariables false

/-- The cells of a metric at an address. -/
def RdMc (w : World) (a : Addr) (m : List Int × List Int) : Prop :=
  ∃ b f, w.cell? a = some b ∧ w.cell? ⟨a.block, a.off + 1, none⟩ = some f ∧ Rd .i64 w b m.1 ∧ Rd .i64 w f m.2
/-- A slice of metrics. -/
def RdMs (w : World) (v : Value) (ms : List (List Int × List Int)) : Prop :=
  ∃ A c, v = .slice A ms.length c ∧ (ms.length ≤ 9223372036854775807 ∧ ms.length ≤ c) ∧ (ms = [] ∨ ∃ ad : Addr, A = some ad ∧ ∀ j, j < ms.length → RdMc w (ad.add (j * 2)) (ms.getD j ([], [])))
theorem RdMc.below {w w1 : World} {a : Addr} {m : List Int × List Int} (h : RdMc w a m) (hb : Below w.heap.size w w1) : RdMc w1 a m := by
  obtain ⟨b, f, h1, h2, h3, h4⟩ := h
  exact ⟨b, f, (hb.cell (World.block_lt_of_cell? w _ h1)).trans h1, (hb.cell (World.block_lt_of_cell? w _ h2)).trans h2, h3.below hb, h4.below hb⟩
theorem RdMs.below {w w1 : World} {v : Value} {ms : List (List Int × List Int)} (h : RdMs w v ms) (hb : Below w.heap.size w w1) : RdMs w1 v ms := by
  obtain ⟨A, c, h1, h2, h3⟩ := h
  refine ⟨A, c, h1, h2, ?_⟩
  rcases h3 with h3 | ⟨ad, h4, h5⟩
  · exact .inl h3
  · exact .inr ⟨ad, h4, fun j hj => (h5 j hj).below hb⟩
def okM (m : List Int × List Int) : Bool := decide (m.1.length ≤ 40) && decide (m.2.length ≤ 40)
def metB (n : Nat) (ms : List (List Int × List Int)) : Bool := (ms.take (n + 1)).all okM && decide (ms.length ≤ n)
theorem all_take_snoc (ms : List (List Int × List Int)) (k : Nat) (h : k < ms.length) : (ms.take (k + 1)).all okM = ((ms.take k).all okM && okM (ms.getD k ([], []))) := by
  rw [List.take_succ_eq_append_getElem h, List.all_append]
  simp [List.getD_eq_getElem?_getD, List.getElem?_eq_getElem h]
theorem all_take_le {ms : List (List Int × List Int)} {k m : Nat} (h : (ms.take m).all okM = true) (hk : k ≤ m) : (ms.take k).all okM = true := by
  rw [List.all_eq_true] at *
  intro x hx
  refine h x ?_
  have : ms.take k = (ms.take m).take k := by rw [List.take_take, Nat.min_eq_left hk]
  rw [this] at hx
  exact List.mem_of_mem_take hx

set_option maxHeartbeats 2000000 in
theorem metrics_any (v : Value) (ms : List (List Int × List Int)) (n : Nat) (hn : n ≤ 100) (w : World) (h : RdMs w v ms) :
    Calls Try.prog 14 #[v, .int .i64 n] w fun e w' => e = .returned (.bool (metB n ms)) ∧ Below w.heap.size w w' := by
  obtain ⟨A, c, rfl, hl, hc⟩ := h
  have HC := Lib.hid hc
  obtain ⟨hl1, hl2⟩ := hl
  clear hc
  go_enter Try.func14, Try.ntmps14
  go_wp2
  go_loopw [5] (fun i wr => ∃ k : Nat, k ≤ ms.length ∧ k ≤ n + 1 ∧ i = .int .i64 k ∧ (ms.take k).all okM = true ∧ Below w.heap.size w wr) (fun i _ => ms.length - (intOf i).toNat)
  case atStart => exact ⟨0, Nat.zero_le _, Nat.zero_le _, rfl, rfl, Below.refl _ _⟩
  case round =>
    obtain ⟨k, hk, hk2, rfl, ha, hb⟩ := hrel
    have HA := Lib.hid ha
    clear ha
    by_cases hlt : k < ms.length ∧ k ≤ n
    · obtain ⟨hlt, hle⟩ := hlt
      have hne : ms ≠ [] := by rintro rfl; simp at hlt
      obtain ⟨ad, rfl, hcell⟩ := HC.out.resolve_left hne
      obtain ⟨b, f, q1, q2, hb1, hb2⟩ := (hcell k hlt).below hb
      have hs := Lib.hid (all_take_snoc ms k hlt)
      obtain ⟨m, hm⟩ : ∃ m, m = ms.getD k ([], []) := ⟨_, rfl⟩
      rw [← hm] at hb1 hb2 hs
      obtain ⟨bs, fs⟩ := m
      obtain ⟨A1, c1, rfl, ⟨l1, l2⟩, hx1⟩ := hb1
      obtain ⟨A2, c2, rfl, ⟨l3, l4⟩, hx2⟩ := hb2
      simp only at q1 q2 l1 l2 l3 l4
      clear hcell hne hm hx1 hx2
      by_cases hg : bs.length ≤ 40 ∧ fs.length ≤ 40
      · obtain ⟨g1, g2⟩ := hg
        have HG := Lib.hid (show okM (bs, fs) = true by unfold okM; simp [g1, g2])
        go_wp2
        all_goals first
          | (exfalso; omega)
          | (go_roundw
             case measure => simp [intOf]; omega
             case rel => exact ⟨k + 1, by omega, by omega, by go_num, by rw [hs.out, HA.out, HG.out]; rfl, hb⟩)
      · have HF := Lib.hid (show metB n ms = false by
          unfold metB
          cases h9 : (ms.take (n + 1)).all okM
          · rfl
          · have h8 := all_take_le h9 (show k + 1 ≤ n + 1 by omega)
            rw [hs.out, HA.out] at h8
            exfalso; apply hg
            unfold okM at h8
            simpa using h8)
        have hg2 : 40 < bs.length ∨ 40 < fs.length := by omega
        clear hg
        go_wp2
        all_goals first
          | (exfalso; omega)
          | (go_ret; exact ⟨by rw [HF.out]; rfl, hb⟩)
    · have HF := Lib.hid (show metB n ms = decide (ms.length ≤ n) by
        unfold metB
        by_cases h8 : ms.length ≤ n
        · have h9 : k = ms.length := by omega
          have h7 := HA.out
          rw [h9, List.take_length] at h7
          rw [List.take_of_length_le (by omega), h7]; rfl
        · simp [h8])
      have hge : ms.length ≤ k ∨ n < k := by omega
      clear hlt
      go_wp2
      all_goals first
        | (exfalso; omega)
        | (go_ret; exact ⟨by rw [HF.out]; simp, hb⟩)
end Go.Proofs.Ytbfgnpbkgegegaa
