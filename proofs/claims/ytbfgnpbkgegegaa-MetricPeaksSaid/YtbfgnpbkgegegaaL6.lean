import Derived.Test.YtbfgnpbkgegegaaL5
import Derived.Deep.DeepCutAuto
import Derived.Deep.CutBlock
import Derived.Deep.RegionHeld3
import Derived.Deep.Light
namespace Go.Proofs.Ytbfgnpbkgegegaa
open Go.RowKit
set_option linter.unusedSimpArgs false
set_option linter.unusedVariables false

theorem blk_fit {w0 w w' : World} {g : Nat} {o : Obj} (hb : Below w0.heap.size w0 w') (hh : w0.heap = w.heap) (h : w.heap[g]? = some o) : w'.heap[g]? = some o := blk_below (w := w0) (by rw [hh]; exact h) hb
theorem bl_call' {w w1 w2 : World} (k : Below w1.heap.size w1 w2) (h : Below w.heap.size w w1) : Below w.heap.size w w2 := bl_call h k
theorem alloc_size (w : World) (o : Obj) : (w.alloc o).heap.size = w.heap.size + 1 := by simp
theorem blk_drew {w : World} {g : Nat} {o : Obj} (h : w.heap[g]? = some o) : w.drew.heap[g]? = some o := h
theorem blk_set2 {w : World} {g : Nat} {T : TypeId} {x y : Value} (h : w.heap[g]? = some (.cells #[x, y] T (0, 0))) (a b : Value) : ((w.setCell ⟨g, 0, none⟩ a).setCell ⟨g, 1, none⟩ b).heap[g]? = some (.cells #[a, b] T (0, 0)) := by
  have := blk_set (blk_set h 0 a) 1 b
  simpa using this
theorem rd_cut {w : World} {A : Option Addr} {c k : Nat} {xs : List Int} (h : Rd .i64 w (.slice A xs.length c) xs) (hk : k ≤ xs.length) : Rd .i64 w (.slice A k c) (xs.take k) := by
  obtain ⟨A', c', e, ⟨h1, h2⟩, h3⟩ := h
  injection e with e1 e2 e3
  subst e1; subst e3
  have hl : (xs.take k).length = k := by rw [List.length_take]; omega
  refine ⟨A, c, by rw [hl], ⟨by omega, by omega⟩, ?_⟩
  rcases h3 with rfl | ⟨ad, h4, h5⟩
  · exact .inl (by simp)
  · refine .inr ⟨ad, h4, fun j hj => ?_⟩
    rw [h5 j (by omega)]
    simp [List.getD_eq_getElem?_getD, List.getElem?_take, show j < k by omega]

def PkRel (xs : List Int) (i : Value) : Prop := ∃ j : Nat, j ≤ xs.length ∧ i = .int .i64 j ∧ (xs.take j).any wideB = false
def rch (xs : List Int) (P : Int) : Nat → Bool
  | 0 => decide (P = 0)
  | j + 1 => rch xs P j || decide ((mt (xs.take (j + 1))).1 = P)
theorem rch_succ (xs : List Int) (P : Int) (j : Nat) : rch xs P (j + 1) = (rch xs P j || decide ((mt (xs.take (j + 1))).1 = P)) := rfl
theorem rch_of {xs : List Int} {P : Int} {i : Nat} (h : (mt (xs.take i)).1 = P) : ∀ j, i ≤ j → rch xs P j = true := by
  intro j
  induction j with
  | zero => intro hj; have : i = 0 := by omega
            subst this; simp [mt] at h; simp [rch, ← h]
  | succ j ih =>
    intro hj
    rw [rch_succ]
    by_cases he : i = j + 1
    · subst he; simp [h]
    · rw [ih (by omega)]; rfl
theorem mt_snoc (xs : List Int) (j : Nat) (h : j < xs.length) : mt (xs.take (j + 1)) = stp (mt (xs.take j)) (xs.getD j 0) := by
  rw [List.take_succ_eq_append_getElem h]; unfold mt; rw [List.foldl_append]
  simp [List.getD_eq_getElem?_getD, List.getElem?_eq_getElem h]
theorem mt_reach (xs : List Int) : ∀ j, j ≤ xs.length → ∃ i, i ≤ j ∧ (mt (xs.take i)).1 = (mt (xs.take j)).2 := by
  intro j
  induction j with
  | zero => intro _; exact ⟨0, Nat.le_refl _, by simp [mt]⟩
  | succ j ih =>
    intro hj
    obtain ⟨i, hi, he⟩ := ih (by omega)
    have hs := mt_snoc xs j (by omega)
    by_cases hm : (mt (xs.take j)).2 ≤ (mt (xs.take (j + 1))).1
    · refine ⟨j + 1, Nat.le_refl _, ?_⟩
      rw [hs] at hm ⊢
      simp only [stp] at hm ⊢
      omega
    · refine ⟨i, by omega, ?_⟩
      rw [he]
      rw [hs] at hm ⊢
      simp only [stp] at hm ⊢
      omega
theorem peaks_pure {xs : List Int} {k : Nat} {N P N1 P1 : Int} (hw : xs.any wideB = false) (hl : xs.length ≤ 500) (hk : k ≤ xs.length) (hN : N = foldN xs) (hP : P = foldP xs) (hN1 : N1 = foldN (xs.take k)) (hP1 : P1 = foldP (xs.take k)) :
    N = (mt xs).1 ∧ N ≤ P ∧ 0 ≤ P ∧ N1 ≤ P ∧ P1 ≤ P ∧
    (∀ j, j < xs.length → -1125899906842624 ≤ (mt (xs.take j)).1 ∧ (mt (xs.take j)).1 ≤ 1125899906842624 ∧ (mt (xs.take (j + 1))).1 = (mt (xs.take j)).1 + xs.getD j 0 ∧ -1125899906842624 ≤ (mt (xs.take (j + 1))).1 ∧ (mt (xs.take (j + 1))).1 ≤ 1125899906842624) ∧
    rch xs P xs.length = true := by
  have hwt : ∀ j, (xs.take j).any wideB = false := fun j => by
    cases h : (xs.take j).any wideB
    · rfl
    · rw [any_of_take wideB xs j h] at hw; cases hw
  have f := fold_mt hw (by omega)
  have f1 := fold_mt (hwt k) (by simp; omega)
  rw [f.1] at hN; rw [f.2] at hP; rw [f1.1] at hN1; rw [f1.2] at hP1
  have hb : ∀ j, j ≤ xs.length → Okm j (mt (xs.take j)) := fun j hj => by
    rw [← meters_mt (hwt j) (by simp; omega)]; exact meters_take hw (by omega) j hj
  have hx := hb xs.length (Nat.le_refl _)
  rw [List.take_length] at hx
  have hkk := hb k hk
  have hsp : (mt xs).2 = max (mt (xs.take k)).2 ((mt (xs.take k)).1 + (mt (xs.drop k)).2) := by
    have e : mt xs = (xs.drop k).foldl stp (mt (xs.take k)) := by
      unfold mt; rw [← List.foldl_append, List.take_append_drop]
    rw [e, (stp_from (xs.drop k) _ hkk.2.2.2.2).1]
  obtain ⟨x1, x2, x3, x4, x5⟩ := hx
  obtain ⟨y1, y2, y3, y4, y5⟩ := hkk
  refine ⟨hN, by omega, by omega, by omega, by omega, ?_, ?_⟩
  · intro j hj
    obtain ⟨z1, z2, _⟩ := hb j (by omega)
    obtain ⟨z3, z4, _⟩ := hb (j + 1) (by omega)
    have hs := mt_snoc xs j hj
    refine ⟨by omega, by omega, by rw [hs]; rfl, by omega, by omega⟩
  · obtain ⟨i, hi, he⟩ := mt_reach xs xs.length (Nat.le_refl _)
    rw [List.take_length, ← hP] at he
    exact rch_of he _ hi
def PkRel2 (xs : List Int) (P : Int) (r s i : Value) : Prop := ∃ j : Nat, j ≤ xs.length ∧ i = .int .i64 j ∧ s = .int .i64 (mt (xs.take j)).1 ∧ r = .bool (rch xs P j)
set_option maxRecDepth 100000 in
set_option maxHeartbeats 3000000 in
theorem peaks_walk (v : Value) (xs : List Int) (k : Nat) (hk : k ≤ xs.length) (w : World) (h : Rd .i64 w v xs) : Calls Try.prog 9 #[v, .int .i64 k] w fun e w' => e = .returned (.bool true) ∧ Below w.heap.size w w' := by
  have H := Lib.hid h
  obtain ⟨A, c, rfl, hl, hc⟩ := h
  have HC := Lib.hid hc
  clear hc
  by_cases h1 : 500 < xs.length
  · go_enter Try.func9, Try.ntmps9
    go_wp2
    all_goals first | (exfalso; omega) | (go_ret; exact ⟨rfl, Below.refl _ _⟩)
  · have q1 : xs.length ≤ 500 := by omega
    clear h1
    have HR := Lib.hid (fun (W2 : World) (hb : Below w.heap.size w W2) => H.out.below hb)
    have HT := Lib.hid (fun (W2 : World) (hb : Below w.heap.size w W2) => rd_cut (H.out.below hb) hk)
    go_enter Try.func9, Try.ntmps9
    go_wp2
    go_loop [6, 28] (fun _ i => PkRel xs i) (fun _ i => xs.length - (intOf i).toNat)
    case atStart => exact ⟨0, Nat.zero_le _, rfl, by simp⟩
    case round =>
      obtain ⟨j, hj, rfl, hn⟩ := hrel
      have HN := Lib.hid hn
      clear hn
      by_cases hlt : j < xs.length
      · have hne : xs ≠ [] := by rintro rfl; simp at hlt
        obtain ⟨ad, rfl, hcell⟩ := HC.out.resolve_left hne
        have h1 := hcell j hlt
        have hs := Lib.hid (any_take_snoc wideB xs j hlt)
        obtain ⟨x, hx⟩ : ∃ x, x = xs.getD j 0 := ⟨_, rfl⟩
        rw [← hx] at h1 hs
        clear hcell hne hx
        cases hp : wideB x
        · obtain ⟨x1, x2⟩ := wide_no hp
          have HP := Lib.hid hp
          clear hp
          go_wp2
          all_goals first
            | (exfalso; omega)
            | (refine ⟨⟨_, _, _, ?_, rfl, rfl, rfl⟩, ?_⟩
               · exact ⟨j + 1, by omega, by go_num, by rw [hs.out, HN.out, HP.out]; rfl⟩
               · simp [intOf]; omega)
        · have hx : x < -1099511627776 ∨ 1099511627776 < x := by unfold wideB at hp; simp at hp; omega
          clear hp
          go_wp2
          all_goals first
            | (exfalso; omega)
            | (go_ret; exact ⟨rfl, Below.refl _ _⟩)
      · have HW := Lib.hid (show xs.any wideB = false by
          have h9 := HN.out
          rwa [List.take_of_length_le (by omega)] at h9)
        clear HN
        have hkc : k ≤ c := by omega
        go_upto_region 9 with (fail)
        go_cut [7, 8] (fun v7 v8 wc => ∃ g7 g8 : Nat, v7 = .pointer (some ⟨g7, 0, none⟩) ∧ v8 = .pointer (some ⟨g8, 0, none⟩) ∧ wc.heap[g7]? = some (.cells #[.int .i64 (foldN xs), .int .i64 (foldP xs)] 24 (0, 0)) ∧ wc.heap[g8]? = some (.cells #[.int .i64 (foldN (xs.take k)), .int .i64 (foldP (xs.take k))] 24 (0, 0)) ∧ Below w.heap.size w wc)
        case first =>
          go_region_held3 (fun _ => True)
            (first | trivial | go_keep)
            (first
              | (go_at_call_of 12 (Value.slice A k c); refine (fold_any (.slice A k c) (xs.take k) _ ?_).mono ?_; (refine HT.out _ ?_; repeat (first | (with_reducible exact Below.refl _ _) | (with_reducible refine bl_alloc ?_ _) | (with_reducible refine bl_drew ?_) | (focus (apply bl_call'; assumption)))); rintro e w2 ⟨rfl, hb2⟩; (first | (have epp : w2.heap[w.heap.size]? = some (.cells #[.int .i64 0, .int .i64 0] 24 (0, 0)) := blk_fit (w := w1) hb2 rfl Eep.out; have fepp0 := blk_cell epp 0; have fepp1 := blk_cell epp 1; have feppf := blk_frozen epp; simp at fepp0 fepp1; have kepp := blk_lt epp; have Eepp := Lib.hid epp; clear epp; have eqq : w2.heap[w.heap.size + 1]? = some (.cells #[.int .i64 0, .int .i64 0] 24 (0, 0)) := blk_fit (w := w1) hb2 rfl Eeq.out; have feqq0 := blk_cell eqq 0; have feqq1 := blk_cell eqq 1; have feqqf := blk_frozen eqq; simp at feqq0 feqq1; have keqq := blk_lt eqq; have Eeqq := Lib.hid eqq; clear eqq) | (have epp : w2.heap[w.heap.size]? = some (.cells #[.int .i64 0, .int .i64 0] 24 (0, 0)) := blk_fit (w := w1.alloc (.cells #[.int .i64 0, .int .i64 0] 24)) hb2 rfl (blk_alloc Eep.out (.cells #[.int .i64 0, .int .i64 0] 24)); have fepp0 := blk_cell epp 0; have fepp1 := blk_cell epp 1; have feppf := blk_frozen epp; simp at fepp0 fepp1; have kepp := blk_lt epp; have Eepp := Lib.hid epp; clear epp; have er : w2.heap[w1.heap.size]? = some (.cells #[.int .i64 0, .int .i64 0] 24 (0, 0)) := blk_fit (w := w1.alloc (.cells #[.int .i64 0, .int .i64 0] 24)) hb2 rfl (blk_new w1 (.cells #[.int .i64 0, .int .i64 0] 24)); have fer0 := blk_cell er 0; have fer1 := blk_cell er 1; have ferf := blk_frozen er; simp at fer0 fer1; have ker := blk_lt er; have Eer := Lib.hid er; clear er) | (have epp : w2.heap[w.heap.size]? = some (.cells #[.int .i64 0, .int .i64 0] 24 (0, 0)) := blk_fit (w := w1) hb2 rfl Eep.out; have fepp0 := blk_cell epp 0; have fepp1 := blk_cell epp 1; have feppf := blk_frozen epp; simp at fepp0 fepp1; have kepp := blk_lt epp; have Eepp := Lib.hid epp; clear epp) | (have er : w2.heap[w1.heap.size]? = some (.cells #[.int .i64 0, .int .i64 0] 24 (0, 0)) := blk_fit (w := (w1.alloc (.cells #[.int .i64 0, .int .i64 0] 24)).alloc (.cells #[.int .i64 0, .int .i64 0] 24)) hb2 rfl (blk_alloc (blk_new w1 (.cells #[.int .i64 0, .int .i64 0] 24)) (.cells #[.int .i64 0, .int .i64 0] 24)); have fer0 := blk_cell er 0; have fer1 := blk_cell er 1; have ferf := blk_frozen er; simp at fer0 fer1; have ker := blk_lt er; have Eer := Lib.hid er; clear er; have et : w2.heap[w1.heap.size + 1]? = some (.cells #[.int .i64 0, .int .i64 0] 24 (0, 0)) := blk_fit (w := (w1.alloc (.cells #[.int .i64 0, .int .i64 0] 24)).alloc (.cells #[.int .i64 0, .int .i64 0] 24)) hb2 rfl (blk_new' (w := w1.alloc (.cells #[.int .i64 0, .int .i64 0] 24)) (g := w1.heap.size + 1) (alloc_size w1 (.cells #[.int .i64 0, .int .i64 0] 24)).symm (.cells #[.int .i64 0, .int .i64 0] 24)); have fet0 := blk_cell et 0; have fet1 := blk_cell et 1; have fetf := blk_frozen et; simp at fet0 fet1; have ket := blk_lt et; have Eet := Lib.hid et; clear et) | (have er : w2.heap[w1.heap.size]? = some (.cells #[.int .i64 0, .int .i64 0] 24 (0, 0)) := blk_fit (w := w1.alloc (.cells #[.int .i64 0, .int .i64 0] 24)) hb2 rfl (blk_new w1 (.cells #[.int .i64 0, .int .i64 0] 24)); have fer0 := blk_cell er 0; have fer1 := blk_cell er 1; have ferf := blk_frozen er; simp at fer0 fer1; have ker := blk_lt er; have Eer := Lib.hid er; clear er) | skip); have k2 : w.heap.size ≤ w2.heap.size := (by { have h9 := hb2.size; first | exact Nat.le_trans k1 h9 | (simp at h9; omega) | omega }))
              | (go_at_call 12; refine (fold_any (.slice A xs.length c) xs _ ?_).mono ?_; (refine HR.out _ ?_; repeat (first | (with_reducible exact Below.refl _ _) | (with_reducible refine bl_alloc ?_ _) | (with_reducible refine bl_drew ?_))); rintro e w1 ⟨rfl, hb1⟩; (first | (have ep : w1.heap[w.heap.size]? = some (.cells #[.int .i64 0, .int .i64 0] 24 (0, 0)) := blk_fit (w := (w.alloc (.cells #[.int .i64 0, .int .i64 0] 24)).alloc (.cells #[.int .i64 0, .int .i64 0] 24)) hb1 rfl (blk_alloc (blk_new w (.cells #[.int .i64 0, .int .i64 0] 24)) (.cells #[.int .i64 0, .int .i64 0] 24)); have fep0 := blk_cell ep 0; have fep1 := blk_cell ep 1; have fepf := blk_frozen ep; simp at fep0 fep1; have kep := blk_lt ep; have Eep := Lib.hid ep; clear ep; have eq : w1.heap[w.heap.size + 1]? = some (.cells #[.int .i64 0, .int .i64 0] 24 (0, 0)) := blk_fit (w := (w.alloc (.cells #[.int .i64 0, .int .i64 0] 24)).alloc (.cells #[.int .i64 0, .int .i64 0] 24)) hb1 rfl (blk_new' (w := w.alloc (.cells #[.int .i64 0, .int .i64 0] 24)) (g := w.heap.size + 1) (alloc_size w (.cells #[.int .i64 0, .int .i64 0] 24)).symm (.cells #[.int .i64 0, .int .i64 0] 24)); have feq0 := blk_cell eq 0; have feq1 := blk_cell eq 1; have feqf := blk_frozen eq; simp at feq0 feq1; have keq := blk_lt eq; have Eeq := Lib.hid eq; clear eq) | (have ep : w1.heap[w.heap.size]? = some (.cells #[.int .i64 0, .int .i64 0] 24 (0, 0)) := blk_fit (w := w.alloc (.cells #[.int .i64 0, .int .i64 0] 24)) hb1 rfl (blk_new w (.cells #[.int .i64 0, .int .i64 0] 24)); have fep0 := blk_cell ep 0; have fep1 := blk_cell ep 1; have fepf := blk_frozen ep; simp at fep0 fep1; have kep := blk_lt ep; have Eep := Lib.hid ep; clear ep) | skip); have k1 : w.heap.size ≤ w1.heap.size := (by { have h9 := hb1.size; first | exact h9 | (simp at h9; omega) | omega })))
          all_goals (go_wp2; go_meet)
          all_goals (go_light; refine ⟨_, _, rfl, rfl, ?_, ?_, ?_⟩)
          all_goals first
            | (focus ((repeat (first
              | (with_reducible exact blk_new _ _)
              | (with_reducible exact Eep.out) | (with_reducible exact Eeq.out) | (with_reducible exact Eepp.out) | (with_reducible exact Eeqq.out) | (with_reducible exact Eer.out) | (with_reducible exact Eet.out)
              | (focus (with_reducible refine blk_new' ?_ _; (focus (simp; done))))
              | (with_reducible refine blk_alloc ?_ _) | (with_reducible refine blk_drew ?_) | (with_reducible apply blk_set2)
              | (focus (with_reducible refine blk_far ?_ ?_ _; rotate_left; (focus (first | (simp; done) | omega | (simp; omega))))))); done))
            | (focus ((repeat (first
              | (with_reducible exact Below.refl _ _) | (with_reducible refine bl_alloc ?_ _) | (with_reducible refine bl_drew ?_)
              | (focus (with_reducible refine bl_set ?_ ?_ _; rotate_left; (first | with_reducible exact Nat.le_refl _ | with_reducible assumption | (with_reducible refine Nat.le_succ_of_le ?_; (first | with_reducible exact Nat.le_refl _ | with_reducible assumption)))))
              | (focus (apply bl_call'; assumption)))); done))
            | fail
        case rest =>
          obtain ⟨g7, g8, rfl, rfl, e7, e8, hbw⟩ := hcut
          have HBW := Lib.hid hbw
          obtain ⟨N, hN⟩ : ∃ N, N = foldN xs := ⟨_, rfl⟩
          obtain ⟨Pk, hP⟩ : ∃ N, N = foldP xs := ⟨_, rfl⟩
          obtain ⟨N1, hN1⟩ : ∃ N, N = foldN (xs.take k) := ⟨_, rfl⟩
          obtain ⟨P1, hP1⟩ : ∃ N, N = foldP (xs.take k) := ⟨_, rfl⟩
          rw [← hN, ← hP] at e7
          rw [← hN1, ← hP1] at e8
          obtain ⟨p1, p2, p3, p4, p5, p6, p7⟩ := peaks_pure HW.out q1 hk hN hP hN1 hP1
          have F1 := Lib.hid p1
          have F6 := Lib.hid p6
          have F7 := Lib.hid p7
          clear hN hP hN1 hP1 p1 p6 p7
          have m70 := blk_cell e7 0
          have m71 := blk_cell e7 1
          have m80 := blk_cell e8 0
          have m81 := blk_cell e8 1
          simp at m70 m71 m80 m81
          clear e7 e8 hbw
          have HC2 := Lib.hid (show xs = [] ∨ ∃ ad, A = some ad ∧ ∀ j, j < xs.length → wc.cell? (ad.add j) = some (.int .i64 (xs.getD j 0)) from HC.out.imp id (fun ⟨ad, h1, h2⟩ => ⟨ad, h1, fun j hj => (HBW.out.cell (World.block_lt_of_cell? w _ (h2 j hj))).trans (h2 j hj)⟩))
          go_wp2
          go_loop [9, 10, 50] (fun r s i => PkRel2 xs Pk r s i) (fun _ _ i => xs.length - (intOf i).toNat)
          case atStart => exact ⟨0, Nat.zero_le _, rfl, rfl, rfl⟩
          case round =>
            obtain ⟨j, hj, rfl, rfl, rfl⟩ := hrel
            by_cases hlt : j < xs.length
            · have hne : xs ≠ [] := by rintro rfl; simp at hlt
              obtain ⟨ad, rfl, hcell⟩ := HC2.out.resolve_left hne
              have h1 := hcell j hlt
              obtain ⟨b1, b2, b3, b4, b5⟩ := F6.out j hlt
              obtain ⟨x, hx⟩ : ∃ x, x = xs.getD j 0 := ⟨_, rfl⟩
              rw [← hx] at h1 b3
              have hr := Lib.hid (rch_succ xs Pk j)
              obtain ⟨s, hs⟩ : ∃ s, s = (mt (xs.take j)).1 := ⟨_, rfl⟩
              rw [← hs] at b1 b2 b3 ⊢
              rw [b3] at hr b4 b5
              have B3 := Lib.hid b3
              obtain ⟨rr, hrr⟩ : ∃ rr, rr = rch xs Pk j := ⟨_, rfl⟩
              rw [← hrr] at hr ⊢
              clear hcell hne hx b3 hs hrr
              cases rr
              · go_wp2
                all_goals first
                  | (exfalso; omega)
                  | (refine ⟨⟨j + 1, by omega, by go_num, by rw [B3.out], by rw [hr.out]; rfl⟩, ?_⟩
                     simp [intOf]; omega)
              · go_wp2
                all_goals first
                  | (exfalso; omega)
                  | (refine ⟨⟨j + 1, by omega, by go_num, by rw [B3.out], by rw [hr.out]; rfl⟩, ?_⟩
                     simp [intOf]; omega)
            · obtain rfl : j = xs.length := by omega
              rw [List.take_length, F7.out, ← F1.out]
              go_wp2_with fail
              refine (awake_any _).mono ?_
              rintro e w9 ⟨rfl, hb9⟩
              go_wp2_with fail
              go_ret
              exact ⟨rfl, bl_call HBW.out hb9⟩
theorem peaks_row (v : Value) (xs : List Int) (n : Int) (w : World) (h : Rd .i64 w v xs) : Calls Try.prog 9 #[v, .int .i64 n] w fun e w' => e = .returned (.bool true) ∧ Below w.heap.size w w' := by
  by_cases h1 : 0 ≤ n ∧ n ≤ xs.length
  · obtain ⟨k, rfl⟩ := Int.eq_ofNat_of_zero_le h1.1
    exact peaks_walk v xs k (by omega) w h
  · obtain ⟨A, c, rfl, hl, hc⟩ := h
    clear hc
    have h2 : n < 0 ∨ (xs.length : Int) < n := by omega
    clear h1
    go_enter Try.func9, Try.ntmps9
    go_wp2
    all_goals first | (exfalso; omega) | (go_ret; exact ⟨rfl, Below.refl _ _⟩)
end Go.Proofs.Ytbfgnpbkgegegaa
