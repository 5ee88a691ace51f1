/- The law WatchDoes, second form: whatever it reads of bulk at most 2^20, it returns true and what it reads is as it was. Condition: the form's own bound. -/
import Derived.Test.YtgjkidclpehnjaaDo2
import Derived.Test.YtgjkidclpehnjaaDo4
import Derived.Test.YtgjkidclpehnjaaDo5
import Derived.Test.YtgjkidclpehnjaaDo3
set_option linter.unusedVariables false
set_option linter.unusedSimpArgs false
namespace Go.Proofs.Ytgjkidclpehnjaa.Pr
open Go.RowKit Go.Proofs.YtgjkidclpehnjaaW.PrintWords Go.Proofs.YtgjkidclpehnjaaW.PrintLast Go.Proofs.YtgjkidclpehnjaaW.PrintMore
attribute [local go_sem] max2_int min2_int max_two min_two max_three min_three max_four min_four   -- for this text's walks alone
set_option linter.unusedVariables false
set_option linter.unusedSimpArgs false

/-! ### porterref22_Net: function 17 -/
mutual
def porterref22_Net.l0 : Nat → List (S25) → List (S25) → List (S25) → Int → Option ((List (S27)))
  | 0, _, _, _, _ => none
  | k + 1, x0, x1, x5, x6 => if x6 < (x0.length : Int) then (if 0 ≤ x6 then ((porterref05_With.f k x5 ((rd_T25 x0 x6).f0) ((rd_T25 x0 x6).f1) ((rd_T25 x0 x6).f2)).bind fun t259 => (porterref22_Net.l0 k x0 x1 t259 (wrap64 (x6 + 1)))) else (none)) else (porterref22_Net.l1 k x0 x1 x5 0)
def porterref22_Net.l1 : Nat → List (S25) → List (S25) → List (S25) → Int → Option ((List (S27)))
  | 0, _, _, _, _ => none
  | k + 1, x0, x1, x5, x7 => if x7 < (x1.length : Int) then (if 0 ≤ x7 then ((porterref05_With.f k x5 ((rd_T25 x1 x7).f0) ((rd_T25 x1 x7).f1) ((rd_T25 x1 x7).f2)).bind fun t263 => (porterref22_Net.l1 k x0 x1 t263 (wrap64 (x7 + 1)))) else (none)) else (porterref22_Net.l2 k x0 x1 x5 ([] : List (S27)) 0)
def porterref22_Net.l2 : Nat → List (S25) → List (S25) → List (S25) → List (S27) → Int → Option ((List (S27)))
  | 0, _, _, _, _, _ => none
  | k + 1, x0, x1, x5, x8, x9 => if x9 < (x5.length : Int) then (if 0 ≤ x9 then ((porterref22_in.f k x0 ((rd_T25 x5 x9).f0) ((rd_T25 x5 x9).f1) ((rd_T25 x5 x9).f2)).bind fun t267 => ((porterref22_in.f k x1 ((rd_T25 x5 x9).f0) ((rd_T25 x5 x9).f1) ((rd_T25 x5 x9).f2)).bind fun t269 => (if (t267 != t269) = true then ((porterref22_in.f k x0 ((rd_T25 x5 x9).f0) ((rd_T25 x5 x9).f1) ((rd_T25 x5 x9).f2)).bind fun t271 => (if x8.length < 2513169434916 then (porterref22_Net.l2 k x0 x1 x5 (x8 ++ [(⟨t271, (⟨(rd_T25 x5 x9).f0, (rd_T25 x5 x9).f1, (rd_T25 x5 x9).f2⟩ : S25)⟩ : S27)]) (wrap64 (x9 + 1))) else (none))) else (porterref22_Net.l2 k x0 x1 x5 x8 (wrap64 (x9 + 1)))))) else (none)) else (some x8)
end
def porterref22_Net.f (k : Nat) (l0 : List (S25)) (l1 : List (S25)) : Option ((List (S27))) := porterref22_Net.l0 k l0 l1 ([] : List (S25)) 0
theorem porterref22_Net.mono_l : ∀ k, (∀ y0 y1 y2 y3, LeO (porterref22_Net.l0 k y0 y1 y2 y3) (porterref22_Net.l0 (k + 1) y0 y1 y2 y3)) ∧ (∀ y0 y1 y2 y3, LeO (porterref22_Net.l1 k y0 y1 y2 y3) (porterref22_Net.l1 (k + 1) y0 y1 y2 y3)) ∧ (∀ y0 y1 y2 y3 y4, LeO (porterref22_Net.l2 k y0 y1 y2 y3 y4) (porterref22_Net.l2 (k + 1) y0 y1 y2 y3 y4))
  | 0 => ⟨fun _ _ _ _ r h => by simp [porterref22_Net.l0] at h, fun _ _ _ _ r h => by simp [porterref22_Net.l1] at h, fun _ _ _ _ _ r h => by simp [porterref22_Net.l2] at h⟩
  | k + 1 => by
    obtain ⟨ih0, ih1, ih2⟩ := porterref22_Net.mono_l k
    refine ⟨?_, ?_, ?_⟩
    · intro y0 y1 y2 y3
      unfold porterref22_Net.l0
      repeat' first
      | (with_reducible exact ih0 _ _ _ _)
      | (with_reducible exact ih1 _ _ _ _)
      | (with_reducible exact ih2 _ _ _ _ _)
      | (with_reducible exact porterref05_With.mono _ _ _ _ _)
      | (with_reducible exact porterref22_in.mono _ _ _ _ _)
      | (with_reducible exact LeO.refl _)
      | (with_reducible exact LeO.none _)
      | (with_reducible refine LeO.ite ?_ ?_)
      | (with_reducible refine LeO.bind ?_ (fun _ => ?_))
      | exact ih0 _ _ _ _
      | exact ih1 _ _ _ _
      | exact ih2 _ _ _ _ _
      | exact porterref05_With.mono _ _ _ _ _
      | exact porterref22_in.mono _ _ _ _ _
      | exact LeO.none _
      | refine LeO.ite ?_ ?_
      | refine LeO.bind ?_ (fun _ => ?_)
    · intro y0 y1 y2 y3
      unfold porterref22_Net.l1
      repeat' first
      | (with_reducible exact ih0 _ _ _ _)
      | (with_reducible exact ih1 _ _ _ _)
      | (with_reducible exact ih2 _ _ _ _ _)
      | (with_reducible exact porterref05_With.mono _ _ _ _ _)
      | (with_reducible exact porterref22_in.mono _ _ _ _ _)
      | (with_reducible exact LeO.refl _)
      | (with_reducible exact LeO.none _)
      | (with_reducible refine LeO.ite ?_ ?_)
      | (with_reducible refine LeO.bind ?_ (fun _ => ?_))
      | exact ih0 _ _ _ _
      | exact ih1 _ _ _ _
      | exact ih2 _ _ _ _ _
      | exact porterref05_With.mono _ _ _ _ _
      | exact porterref22_in.mono _ _ _ _ _
      | exact LeO.none _
      | refine LeO.ite ?_ ?_
      | refine LeO.bind ?_ (fun _ => ?_)
    · intro y0 y1 y2 y3 y4
      unfold porterref22_Net.l2
      repeat' first
      | (with_reducible exact ih0 _ _ _ _)
      | (with_reducible exact ih1 _ _ _ _)
      | (with_reducible exact ih2 _ _ _ _ _)
      | (with_reducible exact porterref05_With.mono _ _ _ _ _)
      | (with_reducible exact porterref22_in.mono _ _ _ _ _)
      | (with_reducible exact LeO.refl _)
      | (with_reducible exact LeO.none _)
      | (with_reducible refine LeO.ite ?_ ?_)
      | (with_reducible refine LeO.bind ?_ (fun _ => ?_))
      | exact ih0 _ _ _ _
      | exact ih1 _ _ _ _
      | exact ih2 _ _ _ _ _
      | exact porterref05_With.mono _ _ _ _ _
      | exact porterref22_in.mono _ _ _ _ _
      | exact LeO.none _
      | refine LeO.ite ?_ ?_
      | refine LeO.bind ?_ (fun _ => ?_)
theorem porterref22_Net.mono : ∀ a0 a1 k, LeO (porterref22_Net.f k a0 a1) (porterref22_Net.f (k + 1) a0 a1) := by
  intro a0 a1 k
  obtain ⟨ih0, ih1, ih2⟩ := porterref22_Net.mono_l k
  unfold porterref22_Net.f
  repeat' first
      | (with_reducible exact ih0 _ _ _ _)
      | (with_reducible exact ih1 _ _ _ _)
      | (with_reducible exact ih2 _ _ _ _ _)
      | (with_reducible exact porterref05_With.mono _ _ _ _ _)
      | (with_reducible exact porterref22_in.mono _ _ _ _ _)
      | (with_reducible exact LeO.refl _)
      | (with_reducible exact LeO.none _)
      | (with_reducible refine LeO.ite ?_ ?_)
      | (with_reducible refine LeO.bind ?_ (fun _ => ?_))
      | exact ih0 _ _ _ _
      | exact ih1 _ _ _ _
      | exact ih2 _ _ _ _ _
      | exact porterref05_With.mono _ _ _ _ _
      | exact porterref22_in.mono _ _ _ _ _
      | exact LeO.none _
      | refine LeO.ite ?_ ?_
      | refine LeO.bind ?_ (fun _ => ?_)
def porterref22_Net.T14 : Bool × List (List Nat × List Nat) := (true, [([], []), ([], []), ([], []), ([1, 2], [1, 2]), ([3], [3]), ([0, 4], [0, 4]), ([], []), ([], []), ([], []), ([7, 8], [7, 8]), ([9], [9]), ([6, 10, 5], [6, 10]), ([5, 11], [5, 11])])
def porterref22_Net.B14 : List Nat := [0, 0, 0, 6, 14, 31, 0, 0, 0, 384, 896, 2047, 4095]
theorem porterref22_Net.tab14 : rtab .any (opsOf Try.f17 14) = porterref22_Net.T14 := by kernel_rfl
theorem porterref22_Net.bits14 : waitsOk porterref22_Net.T14.2 porterref22_Net.B14 = true := by kernel_rfl
def porterref22_Net.T15 : Bool × List (List Nat × List Nat) := (true, [([], []), ([], []), ([], []), ([], []), ([2, 3], [2, 3]), ([4], [4]), ([1, 5], [1, 5]), ([], []), ([], []), ([7, 8], [7, 8]), ([9], [9]), ([6, 10], [6, 10]), ([11], [11]), ([0, 12, 6], [0, 12]), ([13, 13, 0, 1, 2, 3, 4, 5, 6, 7, 8, 9, 10, 11, 12, 13], [0, 13])])
def porterref22_Net.B15 : List Nat := [0, 0, 0, 0, 12, 28, 62, 0, 0, 384, 896, 2046, 4094, 8191, 16383]
theorem porterref22_Net.tab15 : rtab .any (opsOf Try.f17 15) = porterref22_Net.T15 := by kernel_rfl
theorem porterref22_Net.bits15 : waitsOk porterref22_Net.T15.2 porterref22_Net.B15 = true := by kernel_rfl
set_option maxHeartbeats 8000000 in
set_option maxRecDepth 100000 in
theorem porterref22_Net.calls (k : Nat) (A0 : Option Addr) (c0 : Nat) (l0 : List (S25)) (A1 : Option Addr) (c1 : Nat) (l1 : List (S25)) (r : List (S27)) (w : World) (hr0 : Kd.C k25 w A0 l0.length l0) (hc0 : l0.length ≤ c0) (hr1 : Kd.C k25 w A1 l1.length l1) (hc1 : l1.length ≤ c1) (h : porterref22_Net.f k l0 l1 = some r) :
    Calls Try.prog 17 #[.slice A0 l0.length c0, .slice A1 l1.length c1] w fun e w' => ∃ v0_ : Value, e = .returned (v0_) ∧ Kd.R k27 27 w' w.heap.size (fun _ => True) v0_ r ∧ Below w.heap.size w w' := by
  have hu25 := Try.underlying25
  have hu27 := Try.underlying27
  have HR0 := Aside0.mk hr0
  have HC0 := Aside0.mk hc0
  clear hr0 hc0
  have HR1 := Aside0.mk hr1
  have HC1 := Aside0.mk hc1
  clear hr1 hc1
  have HB := Aside0.mk (Below.refl w.heap.size w)
  have H : (porterref22_Net.l0 k l0 l1 ([] : List (S25)) 0) = some r := h
  clear h
  have H' := Aside0.mk H
  clear H
  go_enter Try.func17, Try.ntmps17
  go_wp2
  go_loopg [5, 6] k (fun kq v5 v6 w' => ∃ (x5_1 : List (S25)) (x6_1 : Int), v6 = .int .i64 x6_1 ∧ Aside0 (porterref22_Net.l0 kq l0 l1 x5_1 x6_1 = some r) ∧ Aside0 (kq ≤ k) ∧ Aside0 (Kd.R k25 25 w' w.heap.size (fun _ => True) v5 x5_1) ∧ Aside0 (Below w.heap.size w w'))
  case atStart => exact ⟨(([] : List (S25))), (0), (by first | rfl | (simp; done) | (simp [*]; done)), H', ⟨Nat.le_refl _⟩, ⟨by first | exact Kd.R_nil _ _ _ _ _ | exact Kd.N_nil _ _ _ _ _ | exact Kd.V_nil _ _ _ _ _ | exact Kd.Q_nil _ _ _ _ _ | exact Kd.S_nil _ _ _ _ _⟩, ⟨by repeat (first | (with_reducible first | exact HB.out | apply below_alloc | apply pw_below_drewN | apply below_drew1) | exact HB.out)⟩⟩
  case round =>
    clear H'
    try clear c1
    try clear p2
    obtain ⟨x5_1, x6_1, rfl, HA, HK1, HO_5, HB⟩ := hrel
    cases gk with
    | zero => exact absurd HA.out (by simp [porterref22_Net.l0])
    | succ k1 =>
      have H := HA.out
      clear HA
      simp only [porterref22_Net.l0] at H
      by_cases c3 : x6_1 < (l0.length : Int)
      · rw [if_pos c3] at H
        have c3b0 : decide (x6_1 < (l0.length : Int)) = true := decide_eq_true c3
        clear c3
        by_cases c4 : 0 ≤ x6_1
        · rw [if_pos c4] at H
          have c4b0 : decide (0 ≤ x6_1) = true := decide_eq_true c4
          clear c4
          replace H := Option.bind_eq_some_iff.mp H
          obtain ⟨t259, A50, H⟩ := H
          replace H : (porterref22_Net.l0 k1 l0 l1 t259 (wrap64 (x6_1 + 1))) = some r := H
          have A5 := Aside0.mk A50
          clear A50
          have H' := Aside0.mk H
          clear H
          have p258 : 0 ≤ (x6_1 : Int) := of_decide_eq_true (by first | (with_reducible assumption) | assumption)
          have q258 : x6_1 < (l0.length : Int) := of_decide_eq_true (by first | (with_reducible assumption) | assumption)
          obtain ⟨ad258, e258, hx258_0, hx258_1, hx258_2⟩ := at_T25 HR0.out x6_1 p258 q258
          cases e258
          replace hx258_0 := (HB.out.cell (World.block_lt_of_cell? w _ hx258_0)).trans hx258_0
          replace hx258_1 := (HB.out.cell (World.block_lt_of_cell? w _ hx258_1)).trans hx258_1
          replace hx258_2 := (HB.out.cell (World.block_lt_of_cell? w _ hx258_2)).trans hx258_2
          replace p258 := eq_true p258
          replace q258 := eq_true q258
          obtain ⟨Ao6, co6, eo6⟩ := Kd.R_slice HO_5.out
          subst eo6
          go_wp2_with (first | ((with_reducible refine gate_callee (f := 30) rfl ?_); refine goesL_ (some 21) rfl rfl Try.func30 (by kernel_rfl) rfl #[.slice Ao6 x5_1.length co6, .agg #[.string ((rd_T25 l0 x6_1).f0), .string ((rd_T25 l0 x6_1).f1), .string ((rd_T25 l0 x6_1).f2)]] rfl (by (try simp only [List.map_toArray, List.map_cons, List.map_nil]); first | done | rfl | (simp only [List.length_drop, List.length_take]; rfl)) ?_; (with_reducible refine (porterref05_With.calls k1 (fun k_ => some k_ = (.slice Ao6 x5_1.length co6 : Value).ownBlock) (.slice Ao6 x5_1.length co6) x5_1 ((rd_T25 l0 x6_1).f0) ((rd_T25 l0 x6_1).f1) ((rd_T25 l0 x6_1).f2) t259 w _ ?side1 ?side2 A5.out).mono ?_); (case side1 => repeat (first | (with_reducible first | exact HB.out | apply below_alloc | apply pw_below_drewN | apply below_drew1) | exact HB.out)); (case side2 => exact Kd.R_tight rfl HO_5.out); rintro e w7 ⟨v260, rfl, ho0, hb, hkp⟩; refine ⟨_, rfl, ?_⟩; have n0_ := Aside0.mk (Kd.R_mono (ok' := fun k_ => True) ho0 (fun k_ hk_ => trivial)); have n1_ := Aside0.mk (hb); clear HB; clear HO_5; have HO261 := n0_; have HB := n1_; clear n0_ n1_; (try clear hb); (try clear hkp); (try clear ho0)))
          go_roundg k1
          case measure => have := HK1.out; omega
          case rel => exact ⟨(t259), (wrap64 (x6_1 + 1)), (by first | rfl | (simp; done) | (simp [*]; done)), H', ⟨by have := HK1.out; omega⟩, ⟨by (with_reducible repeat (first | apply Kd.R_alloc | apply Kd.R_drewN | apply Kd.R_drew)); exact HO261.out⟩, ⟨by repeat (first | (with_reducible first | exact HB.out | apply below_alloc | apply pw_below_drewN | apply below_drew1) | exact HB.out)⟩⟩
        · rw [if_neg c4] at H
          exact absurd H (by simp)
      · rw [if_neg c3] at H
        have c3b0 : decide (x6_1 < (l0.length : Int)) = false := decide_eq_false c3
        clear c3
        have H' := Aside0.mk H
        clear H
        go_wp2
        go_loopg [5, 7] k1 (fun kq v5 v7 w' => ∃ (x5_2 : List (S25)) (x7_2 : Int), v7 = .int .i64 x7_2 ∧ Aside0 (porterref22_Net.l1 kq l0 l1 x5_2 x7_2 = some r) ∧ Aside0 (kq ≤ k1) ∧ Aside0 (Kd.R k25 25 w' w.heap.size (fun _ => True) v5 x5_2) ∧ Aside0 (Below w.heap.size w w'))
        case atStart => exact ⟨(x5_1), (0), (by first | rfl | (simp; done) | (simp [*]; done)), H', ⟨Nat.le_refl _⟩, ⟨by (with_reducible repeat (first | apply Kd.R_alloc | apply Kd.R_drewN | apply Kd.R_drew)); exact HO_5.out⟩, ⟨by repeat (first | (with_reducible first | exact HB.out | apply below_alloc | apply pw_below_drewN | apply below_drew1) | exact HB.out)⟩⟩
        case round =>
          clear H'
          try clear c1
          try clear p2
          try clear q2
          try clear hx2
          try clear c3
          try clear c3b0
          try clear c4
          try clear c4b0
          try clear p6
          try clear hx258_0
          try clear hx258_1
          try clear hx258_2
          try clear p2
          try clear p258
          try clear q258
          obtain ⟨x5_2, x7_2, rfl, HA, HK2, HO_5, HB⟩ := hrel
          cases gk with
          | zero => exact absurd HA.out (by simp [porterref22_Net.l1])
          | succ k2 =>
            have H := HA.out
            clear HA
            simp only [porterref22_Net.l1] at H
            by_cases c8 : x7_2 < (l1.length : Int)
            · rw [if_pos c8] at H
              have c8b0 : decide (x7_2 < (l1.length : Int)) = true := decide_eq_true c8
              clear c8
              by_cases c9 : 0 ≤ x7_2
              · rw [if_pos c9] at H
                have c9b0 : decide (0 ≤ x7_2) = true := decide_eq_true c9
                clear c9
                replace H := Option.bind_eq_some_iff.mp H
                obtain ⟨t263, A100, H⟩ := H
                replace H : (porterref22_Net.l1 k2 l0 l1 t263 (wrap64 (x7_2 + 1))) = some r := H
                have A10 := Aside0.mk A100
                clear A100
                have H' := Aside0.mk H
                clear H
                have p262 : 0 ≤ (x7_2 : Int) := of_decide_eq_true (by first | (with_reducible assumption) | assumption)
                have q262 : x7_2 < (l1.length : Int) := of_decide_eq_true (by first | (with_reducible assumption) | assumption)
                obtain ⟨ad262, e262, hx262_0, hx262_1, hx262_2⟩ := at_T25 HR1.out x7_2 p262 q262
                cases e262
                replace hx262_0 := (HB.out.cell (World.block_lt_of_cell? w _ hx262_0)).trans hx262_0
                replace hx262_1 := (HB.out.cell (World.block_lt_of_cell? w _ hx262_1)).trans hx262_1
                replace hx262_2 := (HB.out.cell (World.block_lt_of_cell? w _ hx262_2)).trans hx262_2
                replace p262 := eq_true p262
                replace q262 := eq_true q262
                obtain ⟨Ao11, co11, eo11⟩ := Kd.R_slice HO_5.out
                subst eo11
                go_wp2_with (first | ((with_reducible refine gate_callee (f := 30) rfl ?_); refine goesL_ (some 33) rfl rfl Try.func30 (by kernel_rfl) rfl #[.slice Ao11 x5_2.length co11, .agg #[.string ((rd_T25 l1 x7_2).f0), .string ((rd_T25 l1 x7_2).f1), .string ((rd_T25 l1 x7_2).f2)]] rfl (by (try simp only [List.map_toArray, List.map_cons, List.map_nil]); first | done | rfl | (simp only [List.length_drop, List.length_take]; rfl)) ?_; (with_reducible refine (porterref05_With.calls k2 (fun k_ => some k_ = (.slice Ao11 x5_2.length co11 : Value).ownBlock) (.slice Ao11 x5_2.length co11) x5_2 ((rd_T25 l1 x7_2).f0) ((rd_T25 l1 x7_2).f1) ((rd_T25 l1 x7_2).f2) t263 w _ ?side1 ?side2 A10.out).mono ?_); (case side1 => repeat (first | (with_reducible first | exact HB.out | apply below_alloc | apply pw_below_drewN | apply below_drew1) | exact HB.out)); (case side2 => exact Kd.R_tight rfl HO_5.out); rintro e w12 ⟨v264, rfl, ho0, hb, hkp⟩; refine ⟨_, rfl, ?_⟩; have n0_ := Aside0.mk (Kd.R_mono (ok' := fun k_ => True) ho0 (fun k_ hk_ => trivial)); have n1_ := Aside0.mk (hb); clear HB; clear HO_5; have HO265 := n0_; have HB := n1_; clear n0_ n1_; (try clear hb); (try clear hkp); (try clear ho0)))
                go_roundg k2
                case measure => have := HK1.out; have := HK2.out; omega
                case rel => exact ⟨(t263), (wrap64 (x7_2 + 1)), (by first | rfl | (simp; done) | (simp [*]; done)), H', ⟨by have := HK1.out; have := HK2.out; omega⟩, ⟨by (with_reducible repeat (first | apply Kd.R_alloc | apply Kd.R_drewN | apply Kd.R_drew)); exact HO265.out⟩, ⟨by repeat (first | (with_reducible first | exact HB.out | apply below_alloc | apply pw_below_drewN | apply below_drew1) | exact HB.out)⟩⟩
              · rw [if_neg c9] at H
                exact absurd H (by simp)
            · rw [if_neg c8] at H
              have c8b0 : decide (x7_2 < (l1.length : Int)) = false := decide_eq_false c8
              clear c8
              have H' := Aside0.mk H
              clear H
              go_wp2
              go_loopg [8, 9] k2 (fun kq v8 v9 w' => ∃ (x8_3 : List (S27)) (x9_3 : Int), v9 = .int .i64 x9_3 ∧ Aside0 (porterref22_Net.l2 kq l0 l1 x5_2 x8_3 x9_3 = some r) ∧ Aside0 (kq ≤ k2) ∧ Aside0 (Kd.R k25 25 w' w.heap.size (fun _ => True) u5 x5_2) ∧ Aside0 (Kd.R k27 27 w' w.heap.size (fun _ => True) v8 x8_3) ∧ Aside0 (Below w.heap.size w w'))
              case atStart => exact ⟨(([] : List (S27))), (0), (by first | rfl | (simp; done) | (simp [*]; done)), H', ⟨Nat.le_refl _⟩, ⟨by (with_reducible repeat (first | apply Kd.R_alloc | apply Kd.R_drewN | apply Kd.R_drew)); exact HO_5.out⟩, ⟨by first | exact Kd.R_nil _ _ _ _ _ | exact Kd.N_nil _ _ _ _ _ | exact Kd.V_nil _ _ _ _ _ | exact Kd.Q_nil _ _ _ _ _ | exact Kd.S_nil _ _ _ _ _⟩, ⟨by repeat (first | (with_reducible first | exact HB.out | apply below_alloc | apply pw_below_drewN | apply below_drew1) | exact HB.out)⟩⟩
              case round =>
                clear H'
                try clear c1
                try clear p2
                try clear q2
                try clear hx2
                try clear c3
                try clear c3b0
                try clear c4
                try clear c4b0
                try clear p6
                try clear c8
                try clear c8b0
                try clear c9
                try clear c9b0
                try clear hx258_0
                try clear hx258_1
                try clear hx258_2
                try clear hx262_0
                try clear hx262_1
                try clear hx262_2
                try clear p2
                try clear p258
                try clear p262
                try clear p6
                try clear q2
                try clear q258
                try clear q262
                obtain ⟨x8_3, x9_3, rfl, HA, HK3, HO_5, HO_8, HB⟩ := hrel
                cases gk with
                | zero => exact absurd HA.out (by simp [porterref22_Net.l2])
                | succ k3 =>
                  have H := HA.out
                  clear HA
                  simp only [porterref22_Net.l2] at H
                  by_cases c13 : x9_3 < (x5_2.length : Int)
                  · rw [if_pos c13] at H
                    have c13b0 : decide (x9_3 < (x5_2.length : Int)) = true := decide_eq_true c13
                    clear c13
                    by_cases c14 : 0 ≤ x9_3
                    · rw [if_pos c14] at H
                      have c14b0 : decide (0 ≤ x9_3) = true := decide_eq_true c14
                      clear c14
                      replace H := Option.bind_eq_some_iff.mp H
                      obtain ⟨t267, A150, H⟩ := H
                      replace H : ((porterref22_in.f k3 l1 ((rd_T25 x5_2 x9_3).f0) ((rd_T25 x5_2 x9_3).f1) ((rd_T25 x5_2 x9_3).f2)).bind fun t269 => (if (t267 != t269) = true then ((porterref22_in.f k3 l0 ((rd_T25 x5_2 x9_3).f0) ((rd_T25 x5_2 x9_3).f1) ((rd_T25 x5_2 x9_3).f2)).bind fun t271 => (if x8_3.length < 2513169434916 then (porterref22_Net.l2 k3 l0 l1 x5_2 (x8_3 ++ [(⟨t271, (⟨(rd_T25 x5_2 x9_3).f0, (rd_T25 x5_2 x9_3).f1, (rd_T25 x5_2 x9_3).f2⟩ : S25)⟩ : S27)]) (wrap64 (x9_3 + 1))) else (none))) else (porterref22_Net.l2 k3 l0 l1 x5_2 x8_3 (wrap64 (x9_3 + 1))))) = some r := H
                      have A15 := Aside0.mk A150
                      clear A150
                      replace H := Option.bind_eq_some_iff.mp H
                      obtain ⟨t269, A160, H⟩ := H
                      replace H : (if (t267 != t269) = true then ((porterref22_in.f k3 l0 ((rd_T25 x5_2 x9_3).f0) ((rd_T25 x5_2 x9_3).f1) ((rd_T25 x5_2 x9_3).f2)).bind fun t271 => (if x8_3.length < 2513169434916 then (porterref22_Net.l2 k3 l0 l1 x5_2 (x8_3 ++ [(⟨t271, (⟨(rd_T25 x5_2 x9_3).f0, (rd_T25 x5_2 x9_3).f1, (rd_T25 x5_2 x9_3).f2⟩ : S25)⟩ : S27)]) (wrap64 (x9_3 + 1))) else (none))) else (porterref22_Net.l2 k3 l0 l1 x5_2 x8_3 (wrap64 (x9_3 + 1)))) = some r := H
                      have A16 := Aside0.mk A160
                      clear A160
                      by_cases c17 : (t267 != t269) = true
                      · rw [if_pos c17] at H
                        have c17b0 : (t267 != t269) = true := c17
                        (try (have c17b1 : decide (t267 = t269) = false := by simpa using c17))
                        (try (have c17b2 : (t267 == t269) = false := by simpa using c17))
                        (try (have c17b3 : ¬ (t267 = t269) := by simpa using c17))
                        clear c17
                        replace H := Option.bind_eq_some_iff.mp H
                        obtain ⟨t271, A180, H⟩ := H
                        replace H : (if x8_3.length < 2513169434916 then (porterref22_Net.l2 k3 l0 l1 x5_2 (x8_3 ++ [(⟨t271, (⟨(rd_T25 x5_2 x9_3).f0, (rd_T25 x5_2 x9_3).f1, (rd_T25 x5_2 x9_3).f2⟩ : S25)⟩ : S27)]) (wrap64 (x9_3 + 1))) else (none)) = some r := H
                        have A18 := Aside0.mk A180
                        clear A180
                        by_cases c19 : x8_3.length < 2513169434916
                        · rw [if_pos c19] at H
                          have LMc19 := Aside0.mk c19
                          clear c19
                          obtain ⟨y273, hy273⟩ : ∃ y_ : List (S27), y_ = (x8_3 ++ [(⟨t271, (⟨(rd_T25 x5_2 x9_3).f0, (rd_T25 x5_2 x9_3).f1, (rd_T25 x5_2 x9_3).f2⟩ : S25)⟩ : S27)]) := ⟨_, rfl⟩
                          replace H : (porterref22_Net.l2 k3 l0 l1 x5_2 y273 (wrap64 (x9_3 + 1))) = some r := by first | (rw [hy273]; with_reducible exact H) | (have H2_ := (Option.bind_some _ _).symm.trans H; rw [hy273]; with_reducible exact H2_) | (have H2_ := (Option.bind_some _ _).symm.trans H; with_reducible exact H2_) | with_reducible exact H | (rw [hy273]; exact H) | exact H
                          have Ny273 := Aside0.mk hy273
                          clear hy273
                          have H' := Aside0.mk H
                          clear H
                          obtain ⟨Ao20, co20, eo20⟩ := Kd.R_slice HO_5.out
                          subst eo20
                          try go_wp2
                          have n0_ := Aside0.mk (Kd.R_drew HO_5.out)
                          have n1_ := Aside0.mk (Kd.R_drew HO_8.out)
                          have n2_ := Aside0.mk (below_drew1 HB.out)
                          clear HO_5
                          clear HO_8
                          clear HB
                          have HO_5 := n0_
                          have HO_8 := n1_
                          have HB := n2_
                          clear n0_ n1_ n2_
                          have p266 : 0 ≤ (x9_3 : Int) := of_decide_eq_true (by first | (with_reducible assumption) | assumption)
                          have q266 : x9_3 < (x5_2.length : Int) := of_decide_eq_true (by first | (with_reducible assumption) | assumption)
                          obtain ⟨ad266, e266, hx266_0, hx266_1, hx266_2⟩ := at_T25 (Kd.R_reads' HO_5.out).2.2 x9_3 p266 q266
                          cases e266
                          replace p266 := eq_true p266
                          replace q266 := eq_true q266
                          have p268 : 0 ≤ (x9_3 : Int) := of_decide_eq_true (by first | (with_reducible assumption) | assumption)
                          have q268 : x9_3 < (x5_2.length : Int) := of_decide_eq_true (by first | (with_reducible assumption) | assumption)
                          obtain ⟨ad268, e268, hx268_0, hx268_1, hx268_2⟩ := at_T25 (Kd.R_reads' HO_5.out).2.2 x9_3 p268 q268
                          obtain rfl : ad266 = ad268 := (by injection e268)
                          replace p268 := eq_true p268
                          replace q268 := eq_true q268
                          refine start_ (n := 13) (S := fun w' => w'.cell? (ad266.add ((x9_3).toNat * 3)) = some (.string ((rd_T25 x5_2 x9_3).f0)) ∧ w'.cell? ⟨(ad266.add ((x9_3).toNat * 3)).block, (ad266.add ((x9_3).toNat * 3)).off + 1, none⟩ = some (.string ((rd_T25 x5_2 x9_3).f1)) ∧ w'.cell? ⟨(ad266.add ((x9_3).toNat * 3)).block, (ad266.add ((x9_3).toNat * 3)).off + 2, none⟩ = some (.string ((rd_T25 x5_2 x9_3).f2)) ∧ w'.cell? (ad266.add ((x9_3).toNat * 3)) = some (.string ((rd_T25 x5_2 x9_3).f0)) ∧ w'.cell? ⟨(ad266.add ((x9_3).toNat * 3)).block, (ad266.add ((x9_3).toNat * 3)).off + 1, none⟩ = some (.string ((rd_T25 x5_2 x9_3).f1)) ∧ w'.cell? ⟨(ad266.add ((x9_3).toNat * 3)).block, (ad266.add ((x9_3).toNat * 3)).off + 2, none⟩ = some (.string ((rd_T25 x5_2 x9_3).f2))) (ds := []) #[false, false, false, false, false, false, false, false, false, false, false, false, false] (by kernel_rfl) rfl rfl ⟨hx266_0, hx266_1, hx266_2, hx268_0, hx268_1, hx268_2⟩ (fun hHeld => ?_); refine with_tabW porterref22_Net.tab14 porterref22_Net.bits14 (fun HT_ HW_ => ?_)
                          generalize wr.drew = w21 at HO_5 HO_8 HB hx266_0 hx266_1 hx266_2 hx268_0 hx268_1 hx268_2 hHeld ⊢
                          refine pure_ (i := 0) (N := some 40) (v := ?_) (a' := ?_) #[true, false, false, false, false, false, false, false, false, false, false, false, false] rfl rfl (any_of HT_.out (by kernel_rfl)) (fun _ _ _ h => h) (Or.inl ⟨by rfl, ?_⟩) ?_ ?_
                          rotate_left
                          · intro w'
                            go_simp
                            with_reducible rfl
                          rotate_left
                          · simp only [Act.put, List.setIfInBounds_toArray, List.set_cons_zero, List.set_cons_succ, i64_w, i32_w]
                            rfl
                          refine pure_ (i := 1) (N := some 41) (v := ?_) (a' := ?_) #[true, true, false, false, false, false, false, false, false, false, false, false, false] rfl rfl (any_of HT_.out (by kernel_rfl)) (fun _ _ _ h => h) (Or.inl ⟨by rfl, ?_⟩) ?_ ?_
                          rotate_left
                          · intro w'
                            go_simp
                            with_reducible rfl
                          rotate_left
                          · simp only [Act.put, List.setIfInBounds_toArray, List.set_cons_zero, List.set_cons_succ, i64_w, i32_w]
                            rfl
                          refine pure_ (i := 2) (N := some 42) (v := ?_) (a' := ?_) #[true, true, true, false, false, false, false, false, false, false, false, false, false] rfl rfl (any_of HT_.out (by kernel_rfl)) (fun _ _ _ h => h) (Or.inl ⟨by rfl, ?_⟩) ?_ ?_
                          rotate_left
                          · intro w'
                            go_simp
                            with_reducible rfl
                          rotate_left
                          · simp only [Act.put, List.setIfInBounds_toArray, List.set_cons_zero, List.set_cons_succ, i64_w, i32_w]
                            rfl
                          refine pure_ (i := 3) (N := some 43) (v := ?_) (a' := ?_) #[true, true, true, true, false, false, false, false, false, false, false, false, false] rfl rfl (any_of HT_.out (by kernel_rfl)) (fun _ _ _ h => h) (Or.inl ⟨by rfl, ?_⟩) ?_ ?_
                          rotate_left
                          · intro w'
                            go_simp
                            with_reducible rfl
                          rotate_left
                          · simp only [Act.put, List.setIfInBounds_toArray, List.set_cons_zero, List.set_cons_succ, i64_w, i32_w]
                            rfl
                          refine pure_ (i := 6) (N := some 46) (v := ?_) (a' := ?_) #[true, true, true, true, false, false, true, false, false, false, false, false, false] rfl rfl (any_of HT_.out (by kernel_rfl)) (fun _ _ _ h => h) (Or.inl ⟨by rfl, ?_⟩) ?_ ?_
                          rotate_left
                          · intro w'
                            go_simp
                            with_reducible rfl
                          rotate_left
                          · simp only [Act.put, List.setIfInBounds_toArray, List.set_cons_zero, List.set_cons_succ, i64_w, i32_w]
                            rfl
                          refine pure_ (i := 7) (N := some 47) (v := ?_) (a' := ?_) #[true, true, true, true, false, false, true, true, false, false, false, false, false] rfl rfl (any_of HT_.out (by kernel_rfl)) (fun _ _ _ h => h) (Or.inl ⟨by rfl, ?_⟩) ?_ ?_
                          rotate_left
                          · intro w'
                            go_simp
                            with_reducible rfl
                          rotate_left
                          · simp only [Act.put, List.setIfInBounds_toArray, List.set_cons_zero, List.set_cons_succ, i64_w, i32_w]
                            rfl
                          refine pure_ (i := 8) (N := some 48) (v := ?_) (a' := ?_) #[true, true, true, true, false, false, true, true, true, false, false, false, false] rfl rfl (any_of HT_.out (by kernel_rfl)) (fun _ _ _ h => h) (Or.inl ⟨by rfl, ?_⟩) ?_ ?_
                          rotate_left
                          · intro w'
                            go_simp
                            with_reducible rfl
                          rotate_left
                          · simp only [Act.put, List.setIfInBounds_toArray, List.set_cons_zero, List.set_cons_succ, i64_w, i32_w]
                            rfl
                          refine pure_ (i := 9) (N := some 49) (v := ?_) (a' := ?_) #[true, true, true, true, false, false, true, true, true, true, false, false, false] rfl rfl (any_of HT_.out (by kernel_rfl)) (fun _ _ _ h => h) (Or.inl ⟨by rfl, ?_⟩) ?_ ?_
                          rotate_left
                          · intro w'
                            go_simp
                            with_reducible rfl
                          rotate_left
                          · simp only [Act.put, List.setIfInBounds_toArray, List.set_cons_zero, List.set_cons_succ, i64_w, i32_w]
                            rfl
                          refine take_ (i := 4) (N := some 44) (v := ?_) (a' := ?_) #[true, true, true, true, true, false, true, true, true, true, false, false, false] rfl rfl (take_ofW HT_.out HW_.out (by kernel_rfl)) (fun _ _ _ h => h) (Or.inl ⟨by rfl, ?_⟩) hHeld ?_ ?_
                          rotate_left
                          · rintro w' ⟨s0, s1, s2, s3, s4, s5⟩
                            go_simp
                            with_reducible rfl
                          rotate_left
                          · simp only [Act.put, List.setIfInBounds_toArray, List.set_cons_zero, List.set_cons_succ, i64_w, i32_w]
                            rfl
                          refine take_ (i := 10) (N := some 50) (v := ?_) (a' := ?_) #[true, true, true, true, true, false, true, true, true, true, true, false, false] rfl rfl (take_ofW HT_.out HW_.out (by kernel_rfl)) (fun _ _ _ h => h) (Or.inl ⟨by rfl, ?_⟩) hHeld ?_ ?_
                          rotate_left
                          · rintro w' ⟨s0, s1, s2, s3, s4, s5⟩
                            go_simp
                            with_reducible rfl
                          rotate_left
                          · simp only [Act.put, List.setIfInBounds_toArray, List.set_cons_zero, List.set_cons_succ, i64_w, i32_w]
                            rfl
                          refine one_ (i := 5) (N := some 45) #[true, true, true, true, true, true, true, true, true, true, true, false, false] rfl rfl (one_of HT_.out (by kernel_rfl)) (by decide) (fun K hK => ?_)
                          refine goes_ Try.func36 (by kernel_rfl) rfl #[.slice A0 l0.length c0, .agg #[.string ((rd_T25 x5_2 x9_3).f0), .string ((rd_T25 x5_2 x9_3).f1), .string ((rd_T25 x5_2 x9_3).f2)]] (by rfl) rfl rfl (by (try simp only [List.map_toArray, List.map_cons, List.map_nil]); first | done | rfl | (simp only [List.length_drop, List.length_take]; rfl)) ?_
                          with_reducible refine (porterref22_in.calls k3 _ _ l0 ((rd_T25 x5_2 x9_3).f0) ((rd_T25 x5_2 x9_3).f1) ((rd_T25 x5_2 x9_3).f2) t267 _ ?side1 ?side2 A15.out).mono ?_
                          (case side1 => repeat (first | exact (Kd.C_below HR0.out HB.out) | (with_reducible refine Kd.C_alloc ?_ _) | (with_reducible refine Kd.C_drewN ?_ _) | (with_reducible refine Kd.C_drew ?_)))
                          (case side2 => exact HC0.out)
                          rintro e w22 ⟨rfl, hb⟩
                          have HS0_ := (hb.cell (World.block_lt_of_cell? _ _ (hHeld.1))).trans (hHeld.1)
                          have HS1_ := (hb.cell (World.block_lt_of_cell? _ _ (hHeld.2.1))).trans (hHeld.2.1)
                          have HS2_ := (hb.cell (World.block_lt_of_cell? _ _ (hHeld.2.2.1))).trans (hHeld.2.2.1)
                          have HS3_ := (hb.cell (World.block_lt_of_cell? _ _ (hHeld.2.2.2.1))).trans (hHeld.2.2.2.1)
                          have HS4_ := (hb.cell (World.block_lt_of_cell? _ _ (hHeld.2.2.2.2.1))).trans (hHeld.2.2.2.2.1)
                          have HS5_ := (hb.cell (World.block_lt_of_cell? _ _ (hHeld.2.2.2.2.2))).trans (hHeld.2.2.2.2.2)
                          refine ⟨_, rfl, ?_⟩
                          have n0_ := Aside0.mk (Kd.R_below (by (with_reducible repeat (first | apply Kd.R_alloc | apply Kd.R_drewN | apply Kd.R_drew)); exact HO_5.out) hb)
                          have n1_ := Aside0.mk (Kd.R_below (by (with_reducible repeat (first | apply Kd.R_alloc | apply Kd.R_drewN | apply Kd.R_drew)); exact HO_8.out) hb)
                          have n2_ := Aside0.mk (below_step (by repeat (first | (with_reducible first | exact HB.out | apply below_alloc | apply pw_below_drewN | apply below_drew1) | exact HB.out)) hb)
                          clear HO_5
                          clear HO_8
                          clear HB
                          have HO_5 := n0_
                          have HO_8 := n1_
                          have HB := n2_
                          clear n0_ n1_ n2_
                          (try clear hb)
                          (try clear hb2)
                          (try clear hk)
                          (try clear hi)
                          refine hK.out _ _ ⟨HS0_, HS1_, HS2_, HS3_, HS4_, HS5_⟩ (fun hHeld => ?_)
                          clear hK K
                          refine norm_ (a' := ?_) ?_ ?_
                          rotate_left
                          · show Act.put _ (some 45) _ = _
                            simp only [Act.put, List.setIfInBounds_toArray, List.set_cons_zero, List.set_cons_succ, i64_w, i32_w]
                            rfl
                          refine one_ (i := 11) (N := some 51) #[true, true, true, true, true, true, true, true, true, true, true, true, false] rfl rfl (one_of HT_.out (by kernel_rfl)) (by decide) (fun K hK => ?_)
                          refine goes_ Try.func36 (by kernel_rfl) rfl #[.slice A1 l1.length c1, .agg #[.string ((rd_T25 x5_2 x9_3).f0), .string ((rd_T25 x5_2 x9_3).f1), .string ((rd_T25 x5_2 x9_3).f2)]] (by rfl) rfl rfl (by (try simp only [List.map_toArray, List.map_cons, List.map_nil]); first | done | rfl | (simp only [List.length_drop, List.length_take]; rfl)) ?_
                          with_reducible refine (porterref22_in.calls k3 _ _ l1 ((rd_T25 x5_2 x9_3).f0) ((rd_T25 x5_2 x9_3).f1) ((rd_T25 x5_2 x9_3).f2) t269 _ ?side1 ?side2 A16.out).mono ?_
                          (case side1 => repeat (first | exact (Kd.C_below HR1.out HB.out) | (with_reducible refine Kd.C_alloc ?_ _) | (with_reducible refine Kd.C_drewN ?_ _) | (with_reducible refine Kd.C_drew ?_)))
                          (case side2 => exact HC1.out)
                          rintro e w23 ⟨rfl, hb⟩
                          have HS0_ := (hb.cell (World.block_lt_of_cell? _ _ (hHeld.1))).trans (hHeld.1)
                          have HS1_ := (hb.cell (World.block_lt_of_cell? _ _ (hHeld.2.1))).trans (hHeld.2.1)
                          have HS2_ := (hb.cell (World.block_lt_of_cell? _ _ (hHeld.2.2.1))).trans (hHeld.2.2.1)
                          have HS3_ := (hb.cell (World.block_lt_of_cell? _ _ (hHeld.2.2.2.1))).trans (hHeld.2.2.2.1)
                          have HS4_ := (hb.cell (World.block_lt_of_cell? _ _ (hHeld.2.2.2.2.1))).trans (hHeld.2.2.2.2.1)
                          have HS5_ := (hb.cell (World.block_lt_of_cell? _ _ (hHeld.2.2.2.2.2))).trans (hHeld.2.2.2.2.2)
                          refine ⟨_, rfl, ?_⟩
                          have n0_ := Aside0.mk (Kd.R_below (by (with_reducible repeat (first | apply Kd.R_alloc | apply Kd.R_drewN | apply Kd.R_drew)); exact HO_5.out) hb)
                          have n1_ := Aside0.mk (Kd.R_below (by (with_reducible repeat (first | apply Kd.R_alloc | apply Kd.R_drewN | apply Kd.R_drew)); exact HO_8.out) hb)
                          have n2_ := Aside0.mk (below_step (by repeat (first | (with_reducible first | exact HB.out | apply below_alloc | apply pw_below_drewN | apply below_drew1) | exact HB.out)) hb)
                          clear HO_5
                          clear HO_8
                          clear HB
                          have HO_5 := n0_
                          have HO_8 := n1_
                          have HB := n2_
                          clear n0_ n1_ n2_
                          (try clear hb)
                          (try clear hb2)
                          (try clear hk)
                          (try clear hi)
                          refine hK.out _ _ ⟨HS0_, HS1_, HS2_, HS3_, HS4_, HS5_⟩ (fun hHeld => ?_)
                          clear hK K
                          refine norm_ (a' := ?_) ?_ ?_
                          rotate_left
                          · show Act.put _ (some 51) _ = _
                            simp only [Act.put, List.setIfInBounds_toArray, List.set_cons_zero, List.set_cons_succ, i64_w, i32_w]
                            rfl
                          refine pure_ (i := 12) (N := some 52) (v := ?_) (a' := ?_) #[true, true, true, true, true, true, true, true, true, true, true, true, true] rfl rfl (any_of HT_.out (by kernel_rfl)) (fun _ _ _ h => h) (Or.inl ⟨by rfl, ?_⟩) ?_ ?_
                          rotate_left
                          · intro w'
                            go_simp
                            with_reducible rfl
                          rotate_left
                          · simp only [Act.put, List.setIfInBounds_toArray, List.set_cons_zero, List.set_cons_succ, i64_w, i32_w]
                            rfl
                          refine done_ (done_of HT_.out (by kernel_rfl)) ?_
                          try go_wp2
                          have n0_ := Aside0.mk (Kd.R_drew HO_5.out)
                          have n1_ := Aside0.mk (Kd.R_drew HO_8.out)
                          have n2_ := Aside0.mk (below_drew1 HB.out)
                          clear HO_5
                          clear HO_8
                          clear HB
                          have HO_5 := n0_
                          have HO_8 := n1_
                          have HB := n2_
                          clear n0_ n1_ n2_
                          have p270 : 0 ≤ (x9_3 : Int) := of_decide_eq_true (by first | (with_reducible assumption) | assumption)
                          have q270 : x9_3 < (x5_2.length : Int) := of_decide_eq_true (by first | (with_reducible assumption) | assumption)
                          obtain ⟨ad270, e270, hx270_0, hx270_1, hx270_2⟩ := at_T25 (Kd.R_reads' HO_5.out).2.2 x9_3 p270 q270
                          obtain rfl : ad266 = ad270 := (by injection e270)
                          replace p270 := eq_true p270
                          replace q270 := eq_true q270
                          have p272 : 0 ≤ (x9_3 : Int) := of_decide_eq_true (by first | (with_reducible assumption) | assumption)
                          have q272 : x9_3 < (x5_2.length : Int) := of_decide_eq_true (by first | (with_reducible assumption) | assumption)
                          obtain ⟨ad272, e272, hx272_0, hx272_1, hx272_2⟩ := at_T25 (Kd.R_reads' HO_5.out).2.2 x9_3 p272 q272
                          obtain rfl : ad266 = ad272 := (by injection e272)
                          replace p272 := eq_true p272
                          replace q272 := eq_true q272
                          refine start_ (n := 15) (S := fun w' => w'.cell? (ad266.add ((x9_3).toNat * 3)) = some (.string ((rd_T25 x5_2 x9_3).f0)) ∧ w'.cell? ⟨(ad266.add ((x9_3).toNat * 3)).block, (ad266.add ((x9_3).toNat * 3)).off + 1, none⟩ = some (.string ((rd_T25 x5_2 x9_3).f1)) ∧ w'.cell? ⟨(ad266.add ((x9_3).toNat * 3)).block, (ad266.add ((x9_3).toNat * 3)).off + 2, none⟩ = some (.string ((rd_T25 x5_2 x9_3).f2)) ∧ w'.cell? (ad266.add ((x9_3).toNat * 3)) = some (.string ((rd_T25 x5_2 x9_3).f0)) ∧ w'.cell? ⟨(ad266.add ((x9_3).toNat * 3)).block, (ad266.add ((x9_3).toNat * 3)).off + 1, none⟩ = some (.string ((rd_T25 x5_2 x9_3).f1)) ∧ w'.cell? ⟨(ad266.add ((x9_3).toNat * 3)).block, (ad266.add ((x9_3).toNat * 3)).off + 2, none⟩ = some (.string ((rd_T25 x5_2 x9_3).f2))) (ds := [12, 13]) #[false, false, false, false, false, false, false, false, false, false, false, false, false, false, false] (by kernel_rfl) rfl rfl ⟨hx270_0, hx270_1, hx270_2, hx272_0, hx272_1, hx272_2⟩ (fun hHeld => ?_); refine with_tabW porterref22_Net.tab15 porterref22_Net.bits15 (fun HT_ HW_ => ?_)
                          generalize w23.drew = w24 at HO_5 HO_8 HB hx270_0 hx270_1 hx270_2 hx272_0 hx272_1 hx272_2 hHeld ⊢
                          refine pure_ (i := 0) (N := some 53) (v := ?_) (a' := ?_) #[true, false, false, false, false, false, false, false, false, false, false, false, false, false, false] rfl rfl (any_of HT_.out (by kernel_rfl)) (fun _ _ _ h => h) (Or.inl ⟨by rfl, ?_⟩) ?_ ?_
                          rotate_left
                          · intro w'
                            go_simp
                            with_reducible rfl
                          rotate_left
                          · simp only [Act.put, List.setIfInBounds_toArray, List.set_cons_zero, List.set_cons_succ, i64_w, i32_w]
                            rfl
                          refine pure_ (i := 1) (N := some 54) (v := ?_) (a' := ?_) #[true, true, false, false, false, false, false, false, false, false, false, false, false, false, false] rfl rfl (any_of HT_.out (by kernel_rfl)) (fun _ _ _ h => h) (Or.inl ⟨by rfl, ?_⟩) ?_ ?_
                          rotate_left
                          · intro w'
                            go_simp
                            with_reducible rfl
                          rotate_left
                          · simp only [Act.put, List.setIfInBounds_toArray, List.set_cons_zero, List.set_cons_succ, i64_w, i32_w]
                            rfl
                          refine pure_ (i := 2) (N := some 55) (v := ?_) (a' := ?_) #[true, true, true, false, false, false, false, false, false, false, false, false, false, false, false] rfl rfl (any_of HT_.out (by kernel_rfl)) (fun _ _ _ h => h) (Or.inl ⟨by rfl, ?_⟩) ?_ ?_
                          rotate_left
                          · intro w'
                            go_simp
                            with_reducible rfl
                          rotate_left
                          · simp only [Act.put, List.setIfInBounds_toArray, List.set_cons_zero, List.set_cons_succ, i64_w, i32_w]
                            rfl
                          refine pure_ (i := 3) (N := some 56) (v := ?_) (a' := ?_) #[true, true, true, true, false, false, false, false, false, false, false, false, false, false, false] rfl rfl (any_of HT_.out (by kernel_rfl)) (fun _ _ _ h => h) (Or.inl ⟨by rfl, ?_⟩) ?_ ?_
                          rotate_left
                          · intro w'
                            go_simp
                            with_reducible rfl
                          rotate_left
                          · simp only [Act.put, List.setIfInBounds_toArray, List.set_cons_zero, List.set_cons_succ, i64_w, i32_w]
                            rfl
                          refine pure_ (i := 4) (N := some 57) (v := ?_) (a' := ?_) #[true, true, true, true, true, false, false, false, false, false, false, false, false, false, false] rfl rfl (any_of HT_.out (by kernel_rfl)) (fun _ _ _ h => h) (Or.inl ⟨by rfl, ?_⟩) ?_ ?_
                          rotate_left
                          · intro w'
                            go_simp
                            with_reducible rfl
                          rotate_left
                          · simp only [Act.put, List.setIfInBounds_toArray, List.set_cons_zero, List.set_cons_succ, i64_w, i32_w]
                            rfl
                          refine pure_ (i := 7) (N := some 60) (v := ?_) (a' := ?_) #[true, true, true, true, true, false, false, true, false, false, false, false, false, false, false] rfl rfl (any_of HT_.out (by kernel_rfl)) (fun _ _ _ h => h) (Or.inl ⟨by rfl, ?_⟩) ?_ ?_
                          rotate_left
                          · intro w'
                            go_simp
                            with_reducible rfl
                          rotate_left
                          · simp only [Act.put, List.setIfInBounds_toArray, List.set_cons_zero, List.set_cons_succ, i64_w, i32_w]
                            rfl
                          refine pure_ (i := 8) (N := some 61) (v := ?_) (a' := ?_) #[true, true, true, true, true, false, false, true, true, false, false, false, false, false, false] rfl rfl (any_of HT_.out (by kernel_rfl)) (fun _ _ _ h => h) (Or.inl ⟨by rfl, ?_⟩) ?_ ?_
                          rotate_left
                          · intro w'
                            go_simp
                            with_reducible rfl
                          rotate_left
                          · simp only [Act.put, List.setIfInBounds_toArray, List.set_cons_zero, List.set_cons_succ, i64_w, i32_w]
                            rfl
                          refine pure_ (i := 9) (N := some 62) (v := ?_) (a' := ?_) #[true, true, true, true, true, false, false, true, true, true, false, false, false, false, false] rfl rfl (any_of HT_.out (by kernel_rfl)) (fun _ _ _ h => h) (Or.inl ⟨by rfl, ?_⟩) ?_ ?_
                          rotate_left
                          · intro w'
                            go_simp
                            with_reducible rfl
                          rotate_left
                          · simp only [Act.put, List.setIfInBounds_toArray, List.set_cons_zero, List.set_cons_succ, i64_w, i32_w]
                            rfl
                          refine take_ (i := 5) (N := some 58) (v := ?_) (a' := ?_) #[true, true, true, true, true, true, false, true, true, true, false, false, false, false, false] rfl rfl (take_ofW HT_.out HW_.out (by kernel_rfl)) (fun _ _ _ h => h) (Or.inl ⟨by rfl, ?_⟩) hHeld ?_ ?_
                          rotate_left
                          · rintro w' ⟨s0, s1, s2, s3, s4, s5⟩
                            go_simp
                            with_reducible rfl
                          rotate_left
                          · simp only [Act.put, List.setIfInBounds_toArray, List.set_cons_zero, List.set_cons_succ, i64_w, i32_w]
                            rfl
                          refine take_ (i := 10) (N := some 63) (v := ?_) (a' := ?_) #[true, true, true, true, true, true, false, true, true, true, true, false, false, false, false] rfl rfl (take_ofW HT_.out HW_.out (by kernel_rfl)) (fun _ _ _ h => h) (Or.inl ⟨by rfl, ?_⟩) hHeld ?_ ?_
                          rotate_left
                          · rintro w' ⟨s0, s1, s2, s3, s4, s5⟩
                            go_simp
                            with_reducible rfl
                          rotate_left
                          · simp only [Act.put, List.setIfInBounds_toArray, List.set_cons_zero, List.set_cons_succ, i64_w, i32_w]
                            rfl
                          refine one_ (i := 6) (N := some 59) #[true, true, true, true, true, true, true, true, true, true, true, false, false, false, false] rfl rfl (one_of HT_.out (by kernel_rfl)) (by decide) (fun K hK => ?_)
                          refine goes_ Try.func36 (by kernel_rfl) rfl #[.slice A0 l0.length c0, .agg #[.string ((rd_T25 x5_2 x9_3).f0), .string ((rd_T25 x5_2 x9_3).f1), .string ((rd_T25 x5_2 x9_3).f2)]] (by rfl) rfl rfl (by (try simp only [List.map_toArray, List.map_cons, List.map_nil]); first | done | rfl | (simp only [List.length_drop, List.length_take]; rfl)) ?_
                          with_reducible refine (porterref22_in.calls k3 _ _ l0 ((rd_T25 x5_2 x9_3).f0) ((rd_T25 x5_2 x9_3).f1) ((rd_T25 x5_2 x9_3).f2) t271 _ ?side1 ?side2 A18.out).mono ?_
                          (case side1 => repeat (first | exact (Kd.C_below HR0.out HB.out) | (with_reducible refine Kd.C_alloc ?_ _) | (with_reducible refine Kd.C_drewN ?_ _) | (with_reducible refine Kd.C_drew ?_)))
                          (case side2 => exact HC0.out)
                          rintro e w25 ⟨rfl, hb⟩
                          have HS0_ := (hb.cell (World.block_lt_of_cell? _ _ (hHeld.1))).trans (hHeld.1)
                          have HS1_ := (hb.cell (World.block_lt_of_cell? _ _ (hHeld.2.1))).trans (hHeld.2.1)
                          have HS2_ := (hb.cell (World.block_lt_of_cell? _ _ (hHeld.2.2.1))).trans (hHeld.2.2.1)
                          have HS3_ := (hb.cell (World.block_lt_of_cell? _ _ (hHeld.2.2.2.1))).trans (hHeld.2.2.2.1)
                          have HS4_ := (hb.cell (World.block_lt_of_cell? _ _ (hHeld.2.2.2.2.1))).trans (hHeld.2.2.2.2.1)
                          have HS5_ := (hb.cell (World.block_lt_of_cell? _ _ (hHeld.2.2.2.2.2))).trans (hHeld.2.2.2.2.2)
                          refine ⟨_, rfl, ?_⟩
                          have n0_ := Aside0.mk (Kd.R_below (by (with_reducible repeat (first | apply Kd.R_alloc | apply Kd.R_drewN | apply Kd.R_drew)); exact HO_5.out) hb)
                          have n1_ := Aside0.mk (Kd.R_below (by (with_reducible repeat (first | apply Kd.R_alloc | apply Kd.R_drewN | apply Kd.R_drew)); exact HO_8.out) hb)
                          have n2_ := Aside0.mk (below_step (by repeat (first | (with_reducible first | exact HB.out | apply below_alloc | apply pw_below_drewN | apply below_drew1) | exact HB.out)) hb)
                          clear HO_5
                          clear HO_8
                          clear HB
                          have HO_5 := n0_
                          have HO_8 := n1_
                          have HB := n2_
                          clear n0_ n1_ n2_
                          (try clear hb)
                          (try clear hb2)
                          (try clear hk)
                          (try clear hi)
                          refine hK.out _ _ ⟨HS0_, HS1_, HS2_, HS3_, HS4_, HS5_⟩ (fun hHeld => ?_)
                          clear hK K
                          refine norm_ (a' := ?_) ?_ ?_
                          rotate_left
                          · show Act.put _ (some 59) _ = _
                            simp only [Act.put, List.setIfInBounds_toArray, List.set_cons_zero, List.set_cons_succ, i64_w, i32_w]
                            rfl
                          refine pure_ (i := 11) (N := some 64) (v := ?_) (a' := ?_) #[true, true, true, true, true, true, true, true, true, true, true, true, false, false, false] rfl rfl (any_of HT_.out (by kernel_rfl)) (fun _ _ _ h => h) (Or.inl ⟨by rfl, ?_⟩) ?_ ?_
                          rotate_left
                          · intro w'
                            go_simp
                            with_reducible rfl
                          rotate_left
                          · simp only [Act.put, List.setIfInBounds_toArray, List.set_cons_zero, List.set_cons_succ, i64_w, i32_w]
                            rfl
                          refine last_ (i := 12) (N := some 65) #[true, true, true, true, true, true, true, true, true, true, true, true, true, false, false] rfl rfl (one_of HT_.out (by kernel_rfl)) (by decide) (fun K hK => ?_)
                          refine value_ (w1 := ?_) (v := ?_) (by rfl) rfl ?_ ?_
                          rotate_left 2
                          · go_simp
                            constructor
                            · rfl
                            · rfl
                          refine hK.out _ _ ?_
                          clear hK K
                          refine norm_ (a' := ?_) ?_ ?_
                          rotate_left
                          · show Act.put _ (some 65) _ = _
                            simp only [Act.put, List.setIfInBounds_toArray, List.set_cons_zero, List.set_cons_succ, i64_w, i32_w]
                            rfl
                          refine last_ (i := 13) (N := some 66) #[true, true, true, true, true, true, true, true, true, true, true, true, true, true, false] rfl rfl (one_of HT_.out (by kernel_rfl)) (by decide) (fun K hK => ?_)
                          refine Kd.R_append_step k27 (w0 := w) w.heap.size (by rfl) (.tmp 53) (.tmp 65) 43 27 (.agg #[(.bool false), (.string ⟨#[]⟩), (.string ⟨#[]⟩), (.string ⟨#[]⟩)]) 56 rfl Try.underlying43 info27 rfl (by decide) (by omega) u8 x8_3 (⟨t271, (⟨(rd_T25 x5_2 x9_3).f0, (rd_T25 x5_2 x9_3).f1, (rd_T25 x5_2 x9_3).f2⟩ : S25)⟩ : S27) [.bool t271, .string ((rd_T25 x5_2 x9_3).f0), .string ((rd_T25 x5_2 x9_3).f1), .string ((rd_T25 x5_2 x9_3).f2)] (fun _ => True) (fun _ => False) rfl rfl ?aP (fun _ hk => hk.elim) ?aF ?aO ?aB ?aS ?aL ?_
                          (case aP => exact k27_mkM _ _ _ (⟨t271, (⟨(rd_T25 x5_2 x9_3).f0, (rd_T25 x5_2 x9_3).f1, (rd_T25 x5_2 x9_3).f2⟩ : S25)⟩ : S27))
                          (case aB => exact (by repeat (first | (with_reducible first | exact HB.out | apply below_alloc | apply pw_below_drewN | apply below_drew1) | exact HB.out)))
                          (case aF => exact (fun _ _ => trivial))
                          (case aO => exact (by (with_reducible repeat (first | apply Kd.R_alloc | apply Kd.R_drewN | apply Kd.R_drew)); exact HO_8.out))
                          (case aS => exact (below_size (by repeat (first | (with_reducible first | exact HB.out | apply below_alloc | apply pw_below_drewN | apply below_drew1) | exact HB.out))))
                          (case aL => have := LMc19.out; omega)
                          intro v274 w26 ho hb hg hat
                          rw [← Ny273.out] at ho
                          have n0_ := Aside0.mk (Kd.R_over' (by (with_reducible repeat (first | apply Kd.R_alloc | apply Kd.R_drewN | apply Kd.R_drew)); exact HO_5.out) (Kd.R_typed (by (with_reducible repeat (first | apply Kd.R_alloc | apply Kd.R_drewN | apply Kd.R_drew)); exact HO_8.out)) (by decide) hg)
                          have n1_ := Aside0.mk (hb)
                          have n2_ := Aside0.mk (ho)
                          clear HO_5
                          clear HB
                          clear HO_8
                          have HO_5 := n0_
                          have HB := n1_
                          have HO275 := n2_
                          clear n0_ n1_ n2_
                          clear ho hb hg hat
                          refine hK.out _ _ ?_
                          clear hK K
                          refine norm_ (a' := ?_) ?_ ?_
                          rotate_left
                          · show Act.put _ (some 66) _ = _
                            simp only [Act.put, List.setIfInBounds_toArray, List.set_cons_zero, List.set_cons_succ, i64_w, i32_w]
                            rfl
                          refine pure_ (i := 14) (N := some 8) (v := ?_) (a' := ?_) #[true, true, true, true, true, true, true, true, true, true, true, true, true, true, true] rfl rfl (any_of HT_.out (by kernel_rfl)) (fun _ _ _ h => h) (Or.inl ⟨by rfl, ?_⟩) ?_ ?_
                          rotate_left
                          · intro w'
                            go_simp
                            with_reducible rfl
                          rotate_left
                          · simp only [Act.put, List.setIfInBounds_toArray, List.set_cons_zero, List.set_cons_succ, i64_w, i32_w]
                            rfl
                          refine done_ (done_of HT_.out (by kernel_rfl)) ?_
                          try go_wp2
                          go_roundg k3
                          case measure => have := HK1.out; have := HK2.out; have := HK3.out; omega
                          case rel => exact ⟨(y273), (wrap64 (x9_3 + 1)), (by first | rfl | (simp; done) | (simp [*]; done)), H', ⟨by have := HK1.out; have := HK2.out; have := HK3.out; omega⟩, ⟨by (with_reducible repeat (first | apply Kd.R_alloc | apply Kd.R_drewN | apply Kd.R_drew)); exact HO_5.out⟩, ⟨by (with_reducible repeat (first | apply Kd.R_alloc | apply Kd.R_drewN | apply Kd.R_drew)); exact HO275.out⟩, ⟨by repeat (first | (with_reducible first | exact HB.out | apply below_alloc | apply pw_below_drewN | apply below_drew1) | exact HB.out)⟩⟩
                        · rw [if_neg c19] at H
                          exact absurd H (by simp)
                      · rw [if_neg c17] at H
                        have c17b0 : (t267 != t269) = false := by simpa using c17
                        (try (have c17b1 : decide (t267 = t269) = true := by simpa using c17))
                        (try (have c17b2 : (t267 == t269) = true := by simpa using c17))
                        clear c17
                        have H' := Aside0.mk H
                        clear H
                        obtain ⟨Ao27, co27, eo27⟩ := Kd.R_slice HO_5.out
                        subst eo27
                        try go_wp2
                        have n0_ := Aside0.mk (Kd.R_drew HO_5.out)
                        have n1_ := Aside0.mk (Kd.R_drew HO_8.out)
                        have n2_ := Aside0.mk (below_drew1 HB.out)
                        clear HO_5
                        clear HO_8
                        clear HB
                        have HO_5 := n0_
                        have HO_8 := n1_
                        have HB := n2_
                        clear n0_ n1_ n2_
                        have p266 : 0 ≤ (x9_3 : Int) := of_decide_eq_true (by first | (with_reducible assumption) | assumption)
                        have q266 : x9_3 < (x5_2.length : Int) := of_decide_eq_true (by first | (with_reducible assumption) | assumption)
                        obtain ⟨ad266, e266, hx266_0, hx266_1, hx266_2⟩ := at_T25 (Kd.R_reads' HO_5.out).2.2 x9_3 p266 q266
                        cases e266
                        replace p266 := eq_true p266
                        replace q266 := eq_true q266
                        have p268 : 0 ≤ (x9_3 : Int) := of_decide_eq_true (by first | (with_reducible assumption) | assumption)
                        have q268 : x9_3 < (x5_2.length : Int) := of_decide_eq_true (by first | (with_reducible assumption) | assumption)
                        obtain ⟨ad268, e268, hx268_0, hx268_1, hx268_2⟩ := at_T25 (Kd.R_reads' HO_5.out).2.2 x9_3 p268 q268
                        obtain rfl : ad266 = ad268 := (by injection e268)
                        replace p268 := eq_true p268
                        replace q268 := eq_true q268
                        refine start_ (n := 13) (S := fun w' => w'.cell? (ad266.add ((x9_3).toNat * 3)) = some (.string ((rd_T25 x5_2 x9_3).f0)) ∧ w'.cell? ⟨(ad266.add ((x9_3).toNat * 3)).block, (ad266.add ((x9_3).toNat * 3)).off + 1, none⟩ = some (.string ((rd_T25 x5_2 x9_3).f1)) ∧ w'.cell? ⟨(ad266.add ((x9_3).toNat * 3)).block, (ad266.add ((x9_3).toNat * 3)).off + 2, none⟩ = some (.string ((rd_T25 x5_2 x9_3).f2)) ∧ w'.cell? (ad266.add ((x9_3).toNat * 3)) = some (.string ((rd_T25 x5_2 x9_3).f0)) ∧ w'.cell? ⟨(ad266.add ((x9_3).toNat * 3)).block, (ad266.add ((x9_3).toNat * 3)).off + 1, none⟩ = some (.string ((rd_T25 x5_2 x9_3).f1)) ∧ w'.cell? ⟨(ad266.add ((x9_3).toNat * 3)).block, (ad266.add ((x9_3).toNat * 3)).off + 2, none⟩ = some (.string ((rd_T25 x5_2 x9_3).f2))) (ds := []) #[false, false, false, false, false, false, false, false, false, false, false, false, false] (by kernel_rfl) rfl rfl ⟨hx266_0, hx266_1, hx266_2, hx268_0, hx268_1, hx268_2⟩ (fun hHeld => ?_); refine with_tabW porterref22_Net.tab14 porterref22_Net.bits14 (fun HT_ HW_ => ?_)
                        generalize wr.drew = w28 at HO_5 HO_8 HB hx266_0 hx266_1 hx266_2 hx268_0 hx268_1 hx268_2 hHeld ⊢
                        refine pure_ (i := 0) (N := some 40) (v := ?_) (a' := ?_) #[true, false, false, false, false, false, false, false, false, false, false, false, false] rfl rfl (any_of HT_.out (by kernel_rfl)) (fun _ _ _ h => h) (Or.inl ⟨by rfl, ?_⟩) ?_ ?_
                        rotate_left
                        · intro w'
                          go_simp
                          with_reducible rfl
                        rotate_left
                        · simp only [Act.put, List.setIfInBounds_toArray, List.set_cons_zero, List.set_cons_succ, i64_w, i32_w]
                          rfl
                        refine pure_ (i := 1) (N := some 41) (v := ?_) (a' := ?_) #[true, true, false, false, false, false, false, false, false, false, false, false, false] rfl rfl (any_of HT_.out (by kernel_rfl)) (fun _ _ _ h => h) (Or.inl ⟨by rfl, ?_⟩) ?_ ?_
                        rotate_left
                        · intro w'
                          go_simp
                          with_reducible rfl
                        rotate_left
                        · simp only [Act.put, List.setIfInBounds_toArray, List.set_cons_zero, List.set_cons_succ, i64_w, i32_w]
                          rfl
                        refine pure_ (i := 2) (N := some 42) (v := ?_) (a' := ?_) #[true, true, true, false, false, false, false, false, false, false, false, false, false] rfl rfl (any_of HT_.out (by kernel_rfl)) (fun _ _ _ h => h) (Or.inl ⟨by rfl, ?_⟩) ?_ ?_
                        rotate_left
                        · intro w'
                          go_simp
                          with_reducible rfl
                        rotate_left
                        · simp only [Act.put, List.setIfInBounds_toArray, List.set_cons_zero, List.set_cons_succ, i64_w, i32_w]
                          rfl
                        refine pure_ (i := 3) (N := some 43) (v := ?_) (a' := ?_) #[true, true, true, true, false, false, false, false, false, false, false, false, false] rfl rfl (any_of HT_.out (by kernel_rfl)) (fun _ _ _ h => h) (Or.inl ⟨by rfl, ?_⟩) ?_ ?_
                        rotate_left
                        · intro w'
                          go_simp
                          with_reducible rfl
                        rotate_left
                        · simp only [Act.put, List.setIfInBounds_toArray, List.set_cons_zero, List.set_cons_succ, i64_w, i32_w]
                          rfl
                        refine pure_ (i := 6) (N := some 46) (v := ?_) (a' := ?_) #[true, true, true, true, false, false, true, false, false, false, false, false, false] rfl rfl (any_of HT_.out (by kernel_rfl)) (fun _ _ _ h => h) (Or.inl ⟨by rfl, ?_⟩) ?_ ?_
                        rotate_left
                        · intro w'
                          go_simp
                          with_reducible rfl
                        rotate_left
                        · simp only [Act.put, List.setIfInBounds_toArray, List.set_cons_zero, List.set_cons_succ, i64_w, i32_w]
                          rfl
                        refine pure_ (i := 7) (N := some 47) (v := ?_) (a' := ?_) #[true, true, true, true, false, false, true, true, false, false, false, false, false] rfl rfl (any_of HT_.out (by kernel_rfl)) (fun _ _ _ h => h) (Or.inl ⟨by rfl, ?_⟩) ?_ ?_
                        rotate_left
                        · intro w'
                          go_simp
                          with_reducible rfl
                        rotate_left
                        · simp only [Act.put, List.setIfInBounds_toArray, List.set_cons_zero, List.set_cons_succ, i64_w, i32_w]
                          rfl
                        refine pure_ (i := 8) (N := some 48) (v := ?_) (a' := ?_) #[true, true, true, true, false, false, true, true, true, false, false, false, false] rfl rfl (any_of HT_.out (by kernel_rfl)) (fun _ _ _ h => h) (Or.inl ⟨by rfl, ?_⟩) ?_ ?_
                        rotate_left
                        · intro w'
                          go_simp
                          with_reducible rfl
                        rotate_left
                        · simp only [Act.put, List.setIfInBounds_toArray, List.set_cons_zero, List.set_cons_succ, i64_w, i32_w]
                          rfl
                        refine pure_ (i := 9) (N := some 49) (v := ?_) (a' := ?_) #[true, true, true, true, false, false, true, true, true, true, false, false, false] rfl rfl (any_of HT_.out (by kernel_rfl)) (fun _ _ _ h => h) (Or.inl ⟨by rfl, ?_⟩) ?_ ?_
                        rotate_left
                        · intro w'
                          go_simp
                          with_reducible rfl
                        rotate_left
                        · simp only [Act.put, List.setIfInBounds_toArray, List.set_cons_zero, List.set_cons_succ, i64_w, i32_w]
                          rfl
                        refine take_ (i := 4) (N := some 44) (v := ?_) (a' := ?_) #[true, true, true, true, true, false, true, true, true, true, false, false, false] rfl rfl (take_ofW HT_.out HW_.out (by kernel_rfl)) (fun _ _ _ h => h) (Or.inl ⟨by rfl, ?_⟩) hHeld ?_ ?_
                        rotate_left
                        · rintro w' ⟨s0, s1, s2, s3, s4, s5⟩
                          go_simp
                          with_reducible rfl
                        rotate_left
                        · simp only [Act.put, List.setIfInBounds_toArray, List.set_cons_zero, List.set_cons_succ, i64_w, i32_w]
                          rfl
                        refine take_ (i := 10) (N := some 50) (v := ?_) (a' := ?_) #[true, true, true, true, true, false, true, true, true, true, true, false, false] rfl rfl (take_ofW HT_.out HW_.out (by kernel_rfl)) (fun _ _ _ h => h) (Or.inl ⟨by rfl, ?_⟩) hHeld ?_ ?_
                        rotate_left
                        · rintro w' ⟨s0, s1, s2, s3, s4, s5⟩
                          go_simp
                          with_reducible rfl
                        rotate_left
                        · simp only [Act.put, List.setIfInBounds_toArray, List.set_cons_zero, List.set_cons_succ, i64_w, i32_w]
                          rfl
                        refine one_ (i := 5) (N := some 45) #[true, true, true, true, true, true, true, true, true, true, true, false, false] rfl rfl (one_of HT_.out (by kernel_rfl)) (by decide) (fun K hK => ?_)
                        refine goes_ Try.func36 (by kernel_rfl) rfl #[.slice A0 l0.length c0, .agg #[.string ((rd_T25 x5_2 x9_3).f0), .string ((rd_T25 x5_2 x9_3).f1), .string ((rd_T25 x5_2 x9_3).f2)]] (by rfl) rfl rfl (by (try simp only [List.map_toArray, List.map_cons, List.map_nil]); first | done | rfl | (simp only [List.length_drop, List.length_take]; rfl)) ?_
                        with_reducible refine (porterref22_in.calls k3 _ _ l0 ((rd_T25 x5_2 x9_3).f0) ((rd_T25 x5_2 x9_3).f1) ((rd_T25 x5_2 x9_3).f2) t267 _ ?side1 ?side2 A15.out).mono ?_
                        (case side1 => repeat (first | exact (Kd.C_below HR0.out HB.out) | (with_reducible refine Kd.C_alloc ?_ _) | (with_reducible refine Kd.C_drewN ?_ _) | (with_reducible refine Kd.C_drew ?_)))
                        (case side2 => exact HC0.out)
                        rintro e w29 ⟨rfl, hb⟩
                        have HS0_ := (hb.cell (World.block_lt_of_cell? _ _ (hHeld.1))).trans (hHeld.1)
                        have HS1_ := (hb.cell (World.block_lt_of_cell? _ _ (hHeld.2.1))).trans (hHeld.2.1)
                        have HS2_ := (hb.cell (World.block_lt_of_cell? _ _ (hHeld.2.2.1))).trans (hHeld.2.2.1)
                        have HS3_ := (hb.cell (World.block_lt_of_cell? _ _ (hHeld.2.2.2.1))).trans (hHeld.2.2.2.1)
                        have HS4_ := (hb.cell (World.block_lt_of_cell? _ _ (hHeld.2.2.2.2.1))).trans (hHeld.2.2.2.2.1)
                        have HS5_ := (hb.cell (World.block_lt_of_cell? _ _ (hHeld.2.2.2.2.2))).trans (hHeld.2.2.2.2.2)
                        refine ⟨_, rfl, ?_⟩
                        have n0_ := Aside0.mk (Kd.R_below (by (with_reducible repeat (first | apply Kd.R_alloc | apply Kd.R_drewN | apply Kd.R_drew)); exact HO_5.out) hb)
                        have n1_ := Aside0.mk (Kd.R_below (by (with_reducible repeat (first | apply Kd.R_alloc | apply Kd.R_drewN | apply Kd.R_drew)); exact HO_8.out) hb)
                        have n2_ := Aside0.mk (below_step (by repeat (first | (with_reducible first | exact HB.out | apply below_alloc | apply pw_below_drewN | apply below_drew1) | exact HB.out)) hb)
                        clear HO_5
                        clear HO_8
                        clear HB
                        have HO_5 := n0_
                        have HO_8 := n1_
                        have HB := n2_
                        clear n0_ n1_ n2_
                        (try clear hb)
                        (try clear hb2)
                        (try clear hk)
                        (try clear hi)
                        refine hK.out _ _ ⟨HS0_, HS1_, HS2_, HS3_, HS4_, HS5_⟩ (fun hHeld => ?_)
                        clear hK K
                        refine norm_ (a' := ?_) ?_ ?_
                        rotate_left
                        · show Act.put _ (some 45) _ = _
                          simp only [Act.put, List.setIfInBounds_toArray, List.set_cons_zero, List.set_cons_succ, i64_w, i32_w]
                          rfl
                        refine one_ (i := 11) (N := some 51) #[true, true, true, true, true, true, true, true, true, true, true, true, false] rfl rfl (one_of HT_.out (by kernel_rfl)) (by decide) (fun K hK => ?_)
                        refine goes_ Try.func36 (by kernel_rfl) rfl #[.slice A1 l1.length c1, .agg #[.string ((rd_T25 x5_2 x9_3).f0), .string ((rd_T25 x5_2 x9_3).f1), .string ((rd_T25 x5_2 x9_3).f2)]] (by rfl) rfl rfl (by (try simp only [List.map_toArray, List.map_cons, List.map_nil]); first | done | rfl | (simp only [List.length_drop, List.length_take]; rfl)) ?_
                        with_reducible refine (porterref22_in.calls k3 _ _ l1 ((rd_T25 x5_2 x9_3).f0) ((rd_T25 x5_2 x9_3).f1) ((rd_T25 x5_2 x9_3).f2) t269 _ ?side1 ?side2 A16.out).mono ?_
                        (case side1 => repeat (first | exact (Kd.C_below HR1.out HB.out) | (with_reducible refine Kd.C_alloc ?_ _) | (with_reducible refine Kd.C_drewN ?_ _) | (with_reducible refine Kd.C_drew ?_)))
                        (case side2 => exact HC1.out)
                        rintro e w30 ⟨rfl, hb⟩
                        have HS0_ := (hb.cell (World.block_lt_of_cell? _ _ (hHeld.1))).trans (hHeld.1)
                        have HS1_ := (hb.cell (World.block_lt_of_cell? _ _ (hHeld.2.1))).trans (hHeld.2.1)
                        have HS2_ := (hb.cell (World.block_lt_of_cell? _ _ (hHeld.2.2.1))).trans (hHeld.2.2.1)
                        have HS3_ := (hb.cell (World.block_lt_of_cell? _ _ (hHeld.2.2.2.1))).trans (hHeld.2.2.2.1)
                        have HS4_ := (hb.cell (World.block_lt_of_cell? _ _ (hHeld.2.2.2.2.1))).trans (hHeld.2.2.2.2.1)
                        have HS5_ := (hb.cell (World.block_lt_of_cell? _ _ (hHeld.2.2.2.2.2))).trans (hHeld.2.2.2.2.2)
                        refine ⟨_, rfl, ?_⟩
                        have n0_ := Aside0.mk (Kd.R_below (by (with_reducible repeat (first | apply Kd.R_alloc | apply Kd.R_drewN | apply Kd.R_drew)); exact HO_5.out) hb)
                        have n1_ := Aside0.mk (Kd.R_below (by (with_reducible repeat (first | apply Kd.R_alloc | apply Kd.R_drewN | apply Kd.R_drew)); exact HO_8.out) hb)
                        have n2_ := Aside0.mk (below_step (by repeat (first | (with_reducible first | exact HB.out | apply below_alloc | apply pw_below_drewN | apply below_drew1) | exact HB.out)) hb)
                        clear HO_5
                        clear HO_8
                        clear HB
                        have HO_5 := n0_
                        have HO_8 := n1_
                        have HB := n2_
                        clear n0_ n1_ n2_
                        (try clear hb)
                        (try clear hb2)
                        (try clear hk)
                        (try clear hi)
                        refine hK.out _ _ ⟨HS0_, HS1_, HS2_, HS3_, HS4_, HS5_⟩ (fun hHeld => ?_)
                        clear hK K
                        refine norm_ (a' := ?_) ?_ ?_
                        rotate_left
                        · show Act.put _ (some 51) _ = _
                          simp only [Act.put, List.setIfInBounds_toArray, List.set_cons_zero, List.set_cons_succ, i64_w, i32_w]
                          rfl
                        refine pure_ (i := 12) (N := some 52) (v := ?_) (a' := ?_) #[true, true, true, true, true, true, true, true, true, true, true, true, true] rfl rfl (any_of HT_.out (by kernel_rfl)) (fun _ _ _ h => h) (Or.inl ⟨by rfl, ?_⟩) ?_ ?_
                        rotate_left
                        · intro w'
                          go_simp
                          with_reducible rfl
                        rotate_left
                        · simp only [Act.put, List.setIfInBounds_toArray, List.set_cons_zero, List.set_cons_succ, i64_w, i32_w]
                          rfl
                        refine done_ (done_of HT_.out (by kernel_rfl)) ?_
                        try go_wp2
                        go_roundg k3
                        case measure => have := HK1.out; have := HK2.out; have := HK3.out; omega
                        case rel => exact ⟨(x8_3), (wrap64 (x9_3 + 1)), (by first | rfl | (simp; done) | (simp [*]; done)), H', ⟨by have := HK1.out; have := HK2.out; have := HK3.out; omega⟩, ⟨by (with_reducible repeat (first | apply Kd.R_alloc | apply Kd.R_drewN | apply Kd.R_drew)); exact HO_5.out⟩, ⟨by (with_reducible repeat (first | apply Kd.R_alloc | apply Kd.R_drewN | apply Kd.R_drew)); exact HO_8.out⟩, ⟨by repeat (first | (with_reducible first | exact HB.out | apply below_alloc | apply pw_below_drewN | apply below_drew1) | exact HB.out)⟩⟩
                    · rw [if_neg c14] at H
                      exact absurd H (by simp)
                  · rw [if_neg c13] at H
                    have c13b0 : decide (x9_3 < (x5_2.length : Int)) = false := decide_eq_false c13
                    clear c13
                    obtain rfl := Option.some.inj H
                    obtain ⟨Ao31, co31, eo31⟩ := Kd.R_slice HO_5.out
                    subst eo31
                    go_wp2
                    go_ret
                    exact ⟨_, by first | rfl | (simp [errW_none, errW_some] <;> rfl) | (simp [*, errW_none, errW_some] <;> rfl), by (with_reducible repeat (first | apply Kd.R_alloc | apply Kd.R_drewN | apply Kd.R_drew)); exact HO_8.out, by repeat (first | (with_reducible first | exact HB.out | apply below_alloc | apply pw_below_drewN | apply below_drew1) | exact HB.out)⟩

end Go.Proofs.Ytgjkidclpehnjaa.Pr

namespace Go.Proofs.Ytgjkidclpehnjaa.Pr
open Go.Proofs.Ytgjkidclpehnjaa Go.Sort Go.RowKit

theorem in_go (l : List T) (t : T) (hl : l.length < 1073741824) : ∀ (B A : List T), l = A ++ B → t ∉ A → Ev (fun k => porterref22_in.l0 k l (A.length : Int) t.f0 t.f1 t.f2) (decide (t ∈ l))
  | [], A, he, hA => by
    have hn : t ∉ l := by rw [he]; simpa using hA
    refine Ev.step (body := fun _ => some (decide (t ∈ l))) Ev.now fun k => ?_
    rw [porterref22_in.l0, if_neg (by rw [he]; simp), decide_eq_false hn]
  | x :: B, A, he, hA => by
    have hlen : l.length = A.length + 1 + B.length := by rw [he]; simp; omega
    have hr : rd_T25 l (A.length : Int) = x := by rw [he]; exact rdT_mid A x B
    by_cases hx : x = t
    · have hi : t ∈ l := by rw [he, hx]; simp
      refine Ev.step (body := fun _ => some (decide (t ∈ l))) Ev.now fun k => ?_
      rw [porterref22_in.l0, if_pos (by omega), if_pos (by omega), hr, if_pos (by rw [eqx_T']; exact hx), decide_eq_true hi]
    · refine Ev.step (in_go l t hl B (A ++ [x]) (by rw [he]; simp) (by simp; exact ⟨hA, fun h => hx h.symm⟩)) fun k => ?_
      rw [porterref22_in.l0, if_pos (by omega), if_pos (by omega), hr, if_neg (by rw [eqx_T']; exact hx), wrap_len A x (by omega)]
theorem in_ev (l : List T) (t : T) (hl : l.length < 1073741824) : Ev (fun k => porterref22_in.f k l t.f0 t.f1 t.f2) (decide (t ∈ l)) := in_go l t hl l [] rfl (by simp)

def netOne (a b : List T) (t : T) : List Mu := if (decide (t ∈ a) != decide (t ∈ b)) = true then [⟨decide (t ∈ a), t⟩] else []
theorem netOne_len (a b : List T) : ∀ l : List T, (l.flatMap (netOne a b)).length ≤ l.length
  | [] => by simp
  | x :: l => by
    have := netOne_len a b l
    have h1 : (netOne a b x).length ≤ 1 := by unfold netOne; split <;> simp
    rw [List.flatMap_cons, List.length_append, List.length_cons]; omega
theorem net2_go (a b all : List T) (ha : a.length < 1073741824) (hb : b.length < 1073741824) (hl : all.length < 1073741824) : ∀ (B A : List T), all = A ++ B → Ev (fun k => porterref22_Net.l2 k a b all (A.flatMap (netOne a b)) (A.length : Int)) (all.flatMap (netOne a b))
  | [], A, he => by
    refine Ev.step (body := fun _ => some (all.flatMap (netOne a b))) Ev.now fun k => ?_
    rw [porterref22_Net.l2, if_neg (by rw [he]; simp), he]; simp
  | x :: B, A, he => by
    have hlen : all.length = A.length + 1 + B.length := by rw [he]; simp; omega
    have hr : rd_T25 all (A.length : Int) = x := by rw [he]; exact rdT_mid A x B
    have ih := net2_go a b all ha hb hl B (A ++ [x]) (by rw [he]; simp)
    have hA := netOne_len a b A
    by_cases hd : (decide (x ∈ a) != decide (x ∈ b)) = true
    · have e : (A ++ [x]).flatMap (netOne a b) = A.flatMap (netOne a b) ++ [⟨decide (x ∈ a), x⟩] := by
        rw [List.flatMap_append, List.flatMap_singleton]; unfold netOne; rw [if_pos hd]
      rw [e] at ih
      obtain ⟨k1, h1⟩ := in_ev a x ha
      obtain ⟨k2, h2⟩ := in_ev b x hb
      obtain ⟨k3, h3⟩ := ih
      refine ⟨k1 + k2 + k3 + 1, fun k hle => ?_⟩
      obtain ⟨k', rfl⟩ : ∃ k', k = k' + 1 := ⟨k - 1, by omega⟩
      have h1' : porterref22_in.f k' a x.f0 x.f1 x.f2 = some (decide (x ∈ a)) := h1 k' (by omega)
      have h2' : porterref22_in.f k' b x.f0 x.f1 x.f2 = some (decide (x ∈ b)) := h2 k' (by omega)
      show porterref22_Net.l2 (k' + 1) a b all (A.flatMap (netOne a b)) (A.length : Int) = _
      rw [porterref22_Net.l2, if_pos (by omega), if_pos (by omega), hr, h1', h2']
      simp only [Option.bind_some]
      rw [if_pos hd, if_pos (by omega), wrap_len A x (by omega)]
      exact h3 k' (by omega)
    · have e : (A ++ [x]).flatMap (netOne a b) = A.flatMap (netOne a b) := by
        rw [List.flatMap_append, List.flatMap_singleton]; unfold netOne; rw [if_neg hd]; simp
      rw [e] at ih
      obtain ⟨k1, h1⟩ := in_ev a x ha
      obtain ⟨k2, h2⟩ := in_ev b x hb
      obtain ⟨k3, h3⟩ := ih
      refine ⟨k1 + k2 + k3 + 1, fun k hle => ?_⟩
      obtain ⟨k', rfl⟩ : ∃ k', k = k' + 1 := ⟨k - 1, by omega⟩
      have h1' : porterref22_in.f k' a x.f0 x.f1 x.f2 = some (decide (x ∈ a)) := h1 k' (by omega)
      have h2' : porterref22_in.f k' b x.f0 x.f1 x.f2 = some (decide (x ∈ b)) := h2 k' (by omega)
      show porterref22_Net.l2 (k' + 1) a b all (A.flatMap (netOne a b)) (A.length : Int) = _
      rw [porterref22_Net.l2, if_pos (by omega), if_pos (by omega), hr, h1', h2']
      simp only [Option.bind_some]
      rw [if_neg hd, wrap_len A x (by omega)]
      exact h3 k' (by omega)
theorem net1_go (a b : List T) (ha : a.length ≤ 1048576) (hb : b.length ≤ 1048576) : ∀ (B A acc : List T), b = A ++ B → Strict acc → acc.length ≤ 1048576 + A.length →
    Ev (fun k => porterref22_Net.l1 k a b acc (A.length : Int)) ((B.foldl (fun u t => ins t u) acc).flatMap (netOne a b))
  | [], A, acc, he, hS, hacc => by
    have hA : A.length ≤ 1048576 := by rw [he] at hb; simpa using hb
    refine Ev.step (net2_go a b acc (by omega) (by omega) (by omega) acc [] rfl) fun k => ?_
    rw [porterref22_Net.l1, if_neg (by rw [he]; simp)]; rfl
  | x :: B, A, acc, he, hS, hacc => by
    have hlen : b.length = A.length + 1 + B.length := by rw [he]; simp; omega
    have hr : rd_T25 b (A.length : Int) = x := by rw [he]; exact rdT_mid A x B
    have ih := net1_go a b ha hb B (A ++ [x]) (ins x acc) (by rw [he]; simp) (ins_strict x acc hS) (by have := ins_len x acc; simp; omega)
    refine Ev.step (Ev.bind (h := fun k u => porterref22_Net.l1 k a b u ((A ++ [x]).length : Int)) (With_ev acc x (by omega) hS) ih) fun k => ?_
    rw [porterref22_Net.l1, if_pos (by omega), if_pos (by omega), hr, wrap_len A x (by omega)]
theorem net0_go (a b : List T) (ha : a.length ≤ 1048576) (hb : b.length ≤ 1048576) : ∀ (B A acc : List T), a = A ++ B → Strict acc → acc.length ≤ A.length →
    Ev (fun k => porterref22_Net.l0 k a b acc (A.length : Int)) ((b.foldl (fun u t => ins t u) (B.foldl (fun u t => ins t u) acc)).flatMap (netOne a b))
  | [], A, acc, he, hS, hacc => by
    have hA : A.length ≤ 1048576 := by rw [he] at ha; simpa using ha
    refine Ev.step (net1_go a b ha hb b [] acc rfl hS (by simp; omega)) fun k => ?_
    rw [porterref22_Net.l0, if_neg (by rw [he]; simp)]; rfl
  | x :: B, A, acc, he, hS, hacc => by
    have hlen : a.length = A.length + 1 + B.length := by rw [he]; simp; omega
    have hr : rd_T25 a (A.length : Int) = x := by rw [he]; exact rdT_mid A x B
    have ih := net0_go a b ha hb B (A ++ [x]) (ins x acc) (by rw [he]; simp) (ins_strict x acc hS) (by have := ins_len x acc; simp; omega)
    refine Ev.step (Ev.bind (h := fun k u => porterref22_Net.l0 k a b u ((A ++ [x]).length : Int)) (With_ev acc x (by omega) hS) ih) fun k => ?_
    rw [porterref22_Net.l0, if_pos (by omega), if_pos (by omega), hr, wrap_len A x (by omega)]
theorem insAll (ts : List T) : ∀ acc : List T, Strict acc → Strict (ts.foldl (fun u t => ins t u) acc) ∧ ∀ z, z ∈ ts.foldl (fun u t => ins t u) acc ↔ z ∈ acc ∨ z ∈ ts := by
  induction ts with
  | nil => intro acc h; exact ⟨h, by simp⟩
  | cons t ts ih =>
    intro acc h
    obtain ⟨h1, h2⟩ := ih (ins t acc) (ins_strict t acc h)
    refine ⟨h1, fun z => ?_⟩
    rw [List.foldl_cons, h2, ins_mem, List.mem_cons]
    constructor
    · rintro ((h | h) | h) <;> simp [h]
    · rintro (h | h | h) <;> simp [h]
def StrictMu (l : List Mu) : Prop := l.Pairwise (fun x y => ltMu x y = true)
theorem ltMu_T (x y : Mu) : ltMu x y = ltT x.f1 y.f1 := rfl
theorem netAll_strict (a b : List T) : ∀ l, Strict l → StrictMu (l.flatMap (netOne a b))
  | [], _ => List.Pairwise.nil
  | x :: l, h => by
    have h' := List.pairwise_cons.1 h
    rw [List.flatMap_cons]
    refine List.pairwise_append.2 ⟨by unfold netOne; split <;> simp, netAll_strict a b l h'.2, ?_⟩
    intro u hu v hv
    have key : ∀ (z : T) (m : Mu), m ∈ netOne a b z → m.f1 = z := by
      intro z m hm
      unfold netOne at hm
      split at hm
      · simp at hm; rw [hm]
      · simp at hm
    obtain ⟨z, hz, hv'⟩ := List.mem_flatMap.1 hv
    rw [ltMu_T, key x u hu, key z v hv']
    exact h'.1 z hz
theorem StrictMu.nodup {l : List Mu} (h : StrictMu l) : l.Nodup := h.imp (fun {a b} h e => by subst e; rw [swoMu.irrefl] at h; cases h)
theorem StrictMu.sorted {l : List Mu} (h : StrictMu l) : SortedL ltMu l := h.imp (fun h => ltT_asymm h)
theorem net_mem (a b : List T) (m : Mu) : m ∈ netL a b ↔ m.f0 = decide (m.f1 ∈ a) ∧ (decide (m.f1 ∈ a) != decide (m.f1 ∈ b)) = true := by
  obtain ⟨d, t⟩ := m
  unfold netL
  simp only [List.mem_append, List.mem_map, List.mem_filter, decide_eq_true_eq]
  by_cases h1 : t ∈ a <;> by_cases h2 : t ∈ b <;> cases d <;> simp [h1, h2]
theorem netOne_mem (a b l : List T) (m : Mu) : m ∈ l.flatMap (netOne a b) ↔ m.f1 ∈ l ∧ m.f0 = decide (m.f1 ∈ a) ∧ (decide (m.f1 ∈ a) != decide (m.f1 ∈ b)) = true := by
  obtain ⟨d, t⟩ := m
  rw [List.mem_flatMap]
  constructor
  · rintro ⟨z, hz, hm⟩
    unfold netOne at hm
    split at hm
    · rename_i hq
      simp at hm
      obtain ⟨rfl, rfl⟩ := hm
      exact ⟨hz, rfl, hq⟩
    · simp at hm
  · rintro ⟨h1, h2, h3⟩
    refine ⟨t, h1, ?_⟩
    unfold netOne
    rw [if_pos h3]
    simp
    exact h2
theorem compactMu_strict (l : List Mu) : ∀ (p : Mu), SortedL ltMu (p :: l) → (∀ x ∈ p :: l, ∀ y ∈ p :: l, x.f1 = y.f1 → x = y) → StrictMu (p :: compactFrom p l) := by
  induction l with
  | nil => intro p _ _; simp [compactFrom, StrictMu]
  | cons y l ih =>
    intro p h hu
    rw [compactFrom]
    rw [SortedL, List.pairwise_cons, List.pairwise_cons] at h
    obtain ⟨h1, h2, h3⟩ := h
    by_cases hy : y = p
    · rw [if_pos hy]
      exact ih p (List.pairwise_cons.2 ⟨fun z hz => h1 z (List.mem_cons_of_mem _ hz), h3⟩) (fun a ha b hb => hu a (by rcases List.mem_cons.1 ha with rfl | ha <;> simp [*]) b (by rcases List.mem_cons.1 hb with rfl | hb <;> simp [*]))
    · rw [if_neg hy]
      have ih := ih y (List.pairwise_cons.2 ⟨h2, h3⟩) (fun a ha b hb => hu a (List.mem_cons_of_mem _ ha) b (List.mem_cons_of_mem _ hb))
      have hpy : ltMu p y = true := by
        cases hq : ltMu p y with
        | true => rfl
        | false => exact absurd (hu y (by simp) p (by simp) (ltT_conn (h1 y (by simp)) hq)) hy
      refine List.pairwise_cons.2 ⟨fun z hz => ?_, ih⟩
      rcases List.mem_cons.1 hz with rfl | hz
      · exact hpy
      · exact swoMu.trans _ _ _ hpy ((List.pairwise_cons.1 ih).1 z hz)
theorem Net_same (a b : List T) : (b.foldl (fun u t => ins t u) (a.foldl (fun u t => ins t u) [])).flatMap (netOne a b) = compactL (msort ltMu (netL a b)) := by
  obtain ⟨s1, m1⟩ := insAll a [] List.Pairwise.nil
  obtain ⟨s2, m2⟩ := insAll b _ s1
  have hL := netAll_strict a b _ s2
  have hu : ∀ x ∈ msort ltMu (netL a b), ∀ y ∈ msort ltMu (netL a b), x.f1 = y.f1 → x = y := by
    intro x hx y hy he
    have h1 := ((net_mem a b x).1 ((msort_mem _ _).1 hx)).1
    have h2 := ((net_mem a b y).1 ((msort_mem _ _).1 hy)).1
    cases x; cases y
    simp_all
  have hR : StrictMu (compactL (msort ltMu (netL a b))) := by
    have hs := msort_sorted swoMu (netL a b)
    cases hq : msort ltMu (netL a b) with
    | nil => exact List.Pairwise.nil
    | cons p l => rw [hq] at hs hu; exact compactMu_strict l p hs hu
  refine sorted_perm_eq swoMu hL.sorted hR.sorted ((List.perm_ext_iff_of_nodup hL.nodup hR.nodup).2 fun m => ?_) ?_
  · rw [netOne_mem, compactL_mem, msort_mem, net_mem, m2, m1]
    constructor
    · rintro ⟨_, h⟩; exact h
    · intro h
      refine ⟨?_, h⟩
      have h3 := h.2
      by_cases h1 : m.f1 ∈ a
      · exact .inl (.inr h1)
      · by_cases h2 : m.f1 ∈ b
        · exact .inr h2
        · simp [h1, h2] at h3
  · intro x hx y hy h1 h2
    have e : x.f1 = y.f1 := ltT_conn h1 h2
    have a1 := ((netOne_mem a b _ x).1 hx).2.1
    have a2 := ((netOne_mem a b _ y).1 hy).2.1
    cases x; cases y
    simp_all
theorem Net_ev (a b : List T) (ha : a.length ≤ 1048576) (hb : b.length ≤ 1048576) : Ev (fun k => porterref22_Net.f k a b) (compactL (msort ltMu (netL a b))) := by
  have h := net0_go a b ha hb a [] [] rfl List.Pairwise.nil (by simp)
  rw [Net_same] at h
  exact h
theorem muts_self (l : List Mu) (hl : l.length < 4294967296) : ∀ (d i k : Nat), i + d = l.length → d < k → porterlaw22_mutations.l0 k l l (l.length : Int) (i : Int) = some true
  | 0, i, 0, _, hk => by omega
  | 0, i, k + 1, hi, _ => by
    rw [porterlaw22_mutations.l0, if_neg (by omega)]
  | d + 1, i, 0, _, hk => by omega
  | d + 1, i, k + 1, hi, hk => by
    rw [porterlaw22_mutations.l0, if_pos (by omega), if_pos (by omega), if_pos (by omega), if_pos (by omega), if_neg (by simp), wrap_step i (by omega)]
    exact muts_self l hl d (i + 1) k (by omega) (by omega)
theorem muts_f_self (l : List Mu) (hl : l.length < 4294967296) (k : Nat) (hk : l.length < k) : porterlaw22_mutations.f k l l = some true := by
  unfold porterlaw22_mutations.f
  rw [if_pos rfl]
  exact muts_self l hl l.length 0 k (by omega) (by omega)
end Go.Proofs.Ytgjkidclpehnjaa.Pr

namespace Go.Proofs.Ytgjkidclpehnjaa.Pr
open Go.RowKit Go.Proofs.YtgjkidclpehnjaaW.PrintWords Go.Proofs.YtgjkidclpehnjaaW.PrintLast Go.Proofs.YtgjkidclpehnjaaW.PrintMore
attribute [local go_sem] max2_int min2_int max_two min_two max_three min_three max_four min_four   -- for this text's walks alone
set_option linter.unusedVariables false
set_option linter.unusedSimpArgs false

theorem eqA29 (d : Nat) (w : World) (x0 y0 : Int) (x1 y1 : Bool) (x2 y2 : ByteArray) (x3 y3 : ByteArray) (x4 y4 : ByteArray) :
    (Op.equalIn (d + 4) 29 (.agg #[.int .i64 x0, .bool x1, .string x2, .string x3, .string x4]) (.agg #[.int .i64 y0, .bool y1, .string y2, .string y3, .string y4])).run Try.prog w = .ok (x0 == y0 && ((x1 == y1 && ((x2.toList == y2.toList && (x3.toList == y3.toList && (x4.toList == y4.toList))))))) w := by
  refine eqA_of Try.underlying29 (by kernel_rfl) ?_
  refine eqf_cons (by rfl) (by go_simp; rfl) (by go_simp; rfl) (by go_simp) ?_
  exact eqf_last (by rfl) (by go_simp) (by go_simp) (eqA27 (d + 0) w _ _ _ _ _ _ _ _)
end Go.Proofs.Ytgjkidclpehnjaa.Pr

namespace Go.Proofs.Ytgjkidclpehnjaa.Pr
open Go.RowKit Go.Proofs.YtgjkidclpehnjaaW.PrintWords Go.Proofs.YtgjkidclpehnjaaW.PrintLast Go.Proofs.YtgjkidclpehnjaaW.PrintMore
attribute [local go_sem] max2_int min2_int max_two min_two max_three min_three max_four min_four   -- for this text's walks alone
set_option linter.unusedVariables false
set_option linter.unusedSimpArgs false

attribute [local go_sem high] eqA29
/-! ### porterlaw22_WatchDoes: function 4 -/
def porterlaw22_WatchDoes.f (k : Nat) (l0 : List (S25)) (l1 : List (S25)) (l2 : List (S29)) : Option (Bool) := (porterlaw22_awake.f).bind fun t276 => (if t276 = true then ((watch_Play.f l0 l2).bind fun t277 => ((porterlaw22_plain.f k l2).bind fun t280 => ((porterref22_Play.f k l0 t280).bind fun t283 => ((porterlaw22_tuples.f k t277 t283).bind fun t286 => (if t286 = true then ((watch_Rows.f l2).bind fun t287 => ((porterlaw22_plain.f k l2).bind fun t290 => ((porterref22_Rows.f k t290).bind fun t293 => ((porterref07_Same.f k t287 t293).bind fun t296 => (if t296 = true then ((watch_Net.f l0 l1).bind fun t297 => ((porterref22_Net.f k l0 l1).bind fun t300 => ((porterlaw22_mutations.f k t297 t300).bind fun t303 => (some t303)))) else (some false)))))) else (some false)))))) else (some false))
theorem porterlaw22_WatchDoes.mono : ∀ a0 a1 a2 k, LeO (porterlaw22_WatchDoes.f k a0 a1 a2) (porterlaw22_WatchDoes.f (k + 1) a0 a1 a2) := by
  intro a0 a1 a2 k
  unfold porterlaw22_WatchDoes.f
  repeat' first
      | (with_reducible exact porterlaw22_mutations.mono _ _ _)
      | (with_reducible exact porterlaw22_plain.mono _ _)
      | (with_reducible exact porterlaw22_tuples.mono _ _ _)
      | (with_reducible exact porterref07_Same.mono _ _ _)
      | (with_reducible exact porterref22_Net.mono _ _ _)
      | (with_reducible exact porterref22_Play.mono _ _ _)
      | (with_reducible exact porterref22_Rows.mono _ _)
      | (with_reducible exact LeO.refl _)
      | (with_reducible exact LeO.none _)
      | (with_reducible refine LeO.ite ?_ ?_)
      | (with_reducible refine LeO.bind ?_ (fun _ => ?_))
      | exact porterlaw22_mutations.mono _ _ _
      | exact porterlaw22_plain.mono _ _
      | exact porterlaw22_tuples.mono _ _ _
      | exact porterref07_Same.mono _ _ _
      | exact porterref22_Net.mono _ _ _
      | exact porterref22_Play.mono _ _ _
      | exact porterref22_Rows.mono _ _
      | exact LeO.none _
      | refine LeO.ite ?_ ?_
      | refine LeO.bind ?_ (fun _ => ?_)
set_option maxHeartbeats 8000000 in
set_option maxRecDepth 100000 in
theorem porterlaw22_WatchDoes.calls (k : Nat) (A0 : Option Addr) (c0 : Nat) (l0 : List (S25)) (A1 : Option Addr) (c1 : Nat) (l1 : List (S25)) (A2 : Option Addr) (c2 : Nat) (l2 : List (S29)) (r : Bool) (w : World) (hr0 : Kd.C k25 w A0 l0.length l0) (hc0 : l0.length ≤ c0) (hr1 : Kd.C k25 w A1 l1.length l1) (hc1 : l1.length ≤ c1) (hr2 : Kd.C k29 w A2 l2.length l2) (hc2 : l2.length ≤ c2) (h : porterlaw22_WatchDoes.f k l0 l1 l2 = some r) (hT0 : r = true) :
    Calls Try.prog 4 #[.slice A0 l0.length c0, .slice A1 l1.length c1, .slice A2 l2.length c2] w fun e w' => e = .returned (.bool r) ∧ Below w.heap.size w w' := by
  have hT := Aside0.mk hT0
  clear hT0
  have HR0 := Aside0.mk hr0
  have HC0 := Aside0.mk hc0
  clear hr0 hc0
  have HR1 := Aside0.mk hr1
  have HC1 := Aside0.mk hc1
  clear hr1 hc1
  have HR2 := Aside0.mk hr2
  have HC2 := Aside0.mk hc2
  clear hr2 hc2
  have HB := Aside0.mk (Below.refl w.heap.size w)
  have H : ((porterlaw22_awake.f).bind fun t276 => (if t276 = true then ((watch_Play.f l0 l2).bind fun t277 => ((porterlaw22_plain.f k l2).bind fun t280 => ((porterref22_Play.f k l0 t280).bind fun t283 => ((porterlaw22_tuples.f k t277 t283).bind fun t286 => (if t286 = true then ((watch_Rows.f l2).bind fun t287 => ((porterlaw22_plain.f k l2).bind fun t290 => ((porterref22_Rows.f k t290).bind fun t293 => ((porterref07_Same.f k t287 t293).bind fun t296 => (if t296 = true then ((watch_Net.f l0 l1).bind fun t297 => ((porterref22_Net.f k l0 l1).bind fun t300 => ((porterlaw22_mutations.f k t297 t300).bind fun t303 => (some t303)))) else (some false)))))) else (some false)))))) else (some false))) = some r := h
  clear h
  replace H := Option.bind_eq_some_iff.mp H
  obtain ⟨t276, A40, H⟩ := H
  replace H : (if t276 = true then ((watch_Play.f l0 l2).bind fun t277 => ((porterlaw22_plain.f k l2).bind fun t280 => ((porterref22_Play.f k l0 t280).bind fun t283 => ((porterlaw22_tuples.f k t277 t283).bind fun t286 => (if t286 = true then ((watch_Rows.f l2).bind fun t287 => ((porterlaw22_plain.f k l2).bind fun t290 => ((porterref22_Rows.f k t290).bind fun t293 => ((porterref07_Same.f k t287 t293).bind fun t296 => (if t296 = true then ((watch_Net.f l0 l1).bind fun t297 => ((porterref22_Net.f k l0 l1).bind fun t300 => ((porterlaw22_mutations.f k t297 t300).bind fun t303 => (some t303)))) else (some false)))))) else (some false)))))) else (some false)) = some r := H
  have A4 := Aside0.mk A40
  clear A40
  by_cases c5 : t276 = true
  · subst c5
    have H1 : ((watch_Play.f l0 l2).bind fun t277 => ((porterlaw22_plain.f k l2).bind fun t280 => ((porterref22_Play.f k l0 t280).bind fun t283 => ((porterlaw22_tuples.f k t277 t283).bind fun t286 => (if t286 = true then ((watch_Rows.f l2).bind fun t287 => ((porterlaw22_plain.f k l2).bind fun t290 => ((porterref22_Rows.f k t290).bind fun t293 => ((porterref07_Same.f k t287 t293).bind fun t296 => (if t296 = true then ((watch_Net.f l0 l1).bind fun t297 => ((porterref22_Net.f k l0 l1).bind fun t300 => ((porterlaw22_mutations.f k t297 t300).bind fun t303 => (some t303)))) else (some false)))))) else (some false)))))) = some r := by rw [if_pos rfl] at H; exact H
    clear H
    have H := H1
    clear H1
    replace H := Option.bind_eq_some_iff.mp H
    obtain ⟨t277, A60, H⟩ := H
    replace H : ((porterlaw22_plain.f k l2).bind fun t280 => ((porterref22_Play.f k l0 t280).bind fun t283 => ((porterlaw22_tuples.f k t277 t283).bind fun t286 => (if t286 = true then ((watch_Rows.f l2).bind fun t287 => ((porterlaw22_plain.f k l2).bind fun t290 => ((porterref22_Rows.f k t290).bind fun t293 => ((porterref07_Same.f k t287 t293).bind fun t296 => (if t296 = true then ((watch_Net.f l0 l1).bind fun t297 => ((porterref22_Net.f k l0 l1).bind fun t300 => ((porterlaw22_mutations.f k t297 t300).bind fun t303 => (some t303)))) else (some false)))))) else (some false))))) = some r := H
    have A6 := Aside0.mk A60
    clear A60
    replace H := Option.bind_eq_some_iff.mp H
    obtain ⟨t280, A70, H⟩ := H
    replace H : ((porterref22_Play.f k l0 t280).bind fun t283 => ((porterlaw22_tuples.f k t277 t283).bind fun t286 => (if t286 = true then ((watch_Rows.f l2).bind fun t287 => ((porterlaw22_plain.f k l2).bind fun t290 => ((porterref22_Rows.f k t290).bind fun t293 => ((porterref07_Same.f k t287 t293).bind fun t296 => (if t296 = true then ((watch_Net.f l0 l1).bind fun t297 => ((porterref22_Net.f k l0 l1).bind fun t300 => ((porterlaw22_mutations.f k t297 t300).bind fun t303 => (some t303)))) else (some false)))))) else (some false)))) = some r := H
    have A7 := Aside0.mk A70
    clear A70
    replace H := Option.bind_eq_some_iff.mp H
    obtain ⟨t283, A80, H⟩ := H
    replace H : ((porterlaw22_tuples.f k t277 t283).bind fun t286 => (if t286 = true then ((watch_Rows.f l2).bind fun t287 => ((porterlaw22_plain.f k l2).bind fun t290 => ((porterref22_Rows.f k t290).bind fun t293 => ((porterref07_Same.f k t287 t293).bind fun t296 => (if t296 = true then ((watch_Net.f l0 l1).bind fun t297 => ((porterref22_Net.f k l0 l1).bind fun t300 => ((porterlaw22_mutations.f k t297 t300).bind fun t303 => (some t303)))) else (some false)))))) else (some false))) = some r := H
    have A8 := Aside0.mk A80
    clear A80
    replace H := Option.bind_eq_some_iff.mp H
    obtain ⟨t286, A90, H⟩ := H
    replace H : (if t286 = true then ((watch_Rows.f l2).bind fun t287 => ((porterlaw22_plain.f k l2).bind fun t290 => ((porterref22_Rows.f k t290).bind fun t293 => ((porterref07_Same.f k t287 t293).bind fun t296 => (if t296 = true then ((watch_Net.f l0 l1).bind fun t297 => ((porterref22_Net.f k l0 l1).bind fun t300 => ((porterlaw22_mutations.f k t297 t300).bind fun t303 => (some t303)))) else (some false)))))) else (some false)) = some r := H
    have A9 := Aside0.mk A90
    clear A90
    by_cases c10 : t286 = true
    · subst c10
      have H1 : ((watch_Rows.f l2).bind fun t287 => ((porterlaw22_plain.f k l2).bind fun t290 => ((porterref22_Rows.f k t290).bind fun t293 => ((porterref07_Same.f k t287 t293).bind fun t296 => (if t296 = true then ((watch_Net.f l0 l1).bind fun t297 => ((porterref22_Net.f k l0 l1).bind fun t300 => ((porterlaw22_mutations.f k t297 t300).bind fun t303 => (some t303)))) else (some false)))))) = some r := by rw [if_pos rfl] at H; exact H
      clear H
      have H := H1
      clear H1
      replace H := Option.bind_eq_some_iff.mp H
      obtain ⟨t287, A110, H⟩ := H
      replace H : ((porterlaw22_plain.f k l2).bind fun t290 => ((porterref22_Rows.f k t290).bind fun t293 => ((porterref07_Same.f k t287 t293).bind fun t296 => (if t296 = true then ((watch_Net.f l0 l1).bind fun t297 => ((porterref22_Net.f k l0 l1).bind fun t300 => ((porterlaw22_mutations.f k t297 t300).bind fun t303 => (some t303)))) else (some false))))) = some r := H
      have A11 := Aside0.mk A110
      clear A110
      replace H := Option.bind_eq_some_iff.mp H
      obtain ⟨t290, A120, H⟩ := H
      replace H : ((porterref22_Rows.f k t290).bind fun t293 => ((porterref07_Same.f k t287 t293).bind fun t296 => (if t296 = true then ((watch_Net.f l0 l1).bind fun t297 => ((porterref22_Net.f k l0 l1).bind fun t300 => ((porterlaw22_mutations.f k t297 t300).bind fun t303 => (some t303)))) else (some false)))) = some r := H
      have A12 := Aside0.mk A120
      clear A120
      replace H := Option.bind_eq_some_iff.mp H
      obtain ⟨t293, A130, H⟩ := H
      replace H : ((porterref07_Same.f k t287 t293).bind fun t296 => (if t296 = true then ((watch_Net.f l0 l1).bind fun t297 => ((porterref22_Net.f k l0 l1).bind fun t300 => ((porterlaw22_mutations.f k t297 t300).bind fun t303 => (some t303)))) else (some false))) = some r := H
      have A13 := Aside0.mk A130
      clear A130
      replace H := Option.bind_eq_some_iff.mp H
      obtain ⟨t296, A140, H⟩ := H
      replace H : (if t296 = true then ((watch_Net.f l0 l1).bind fun t297 => ((porterref22_Net.f k l0 l1).bind fun t300 => ((porterlaw22_mutations.f k t297 t300).bind fun t303 => (some t303)))) else (some false)) = some r := H
      have A14 := Aside0.mk A140
      clear A140
      by_cases c15 : t296 = true
      · subst c15
        have H1 : ((watch_Net.f l0 l1).bind fun t297 => ((porterref22_Net.f k l0 l1).bind fun t300 => ((porterlaw22_mutations.f k t297 t300).bind fun t303 => (some t303)))) = some r := by rw [if_pos rfl] at H; exact H
        clear H
        have H := H1
        clear H1
        replace H := Option.bind_eq_some_iff.mp H
        obtain ⟨t297, A160, H⟩ := H
        replace H : ((porterref22_Net.f k l0 l1).bind fun t300 => ((porterlaw22_mutations.f k t297 t300).bind fun t303 => (some t303))) = some r := H
        have A16 := Aside0.mk A160
        clear A160
        replace H := Option.bind_eq_some_iff.mp H
        obtain ⟨t300, A170, H⟩ := H
        replace H : ((porterlaw22_mutations.f k t297 t300).bind fun t303 => (some t303)) = some r := H
        have A17 := Aside0.mk A170
        clear A170
        replace H := Option.bind_eq_some_iff.mp H
        obtain ⟨t303, A180, H⟩ := H
        replace H : (some t303) = some r := H
        have A18 := Aside0.mk A180
        clear A180
        obtain rfl := Option.some.inj H
        go_enter Try.func4, Try.ntmps4
        go_wp2_with (first | ((with_reducible refine gate_callee (f := 6) rfl ?_); refine goesL_ (some 7) rfl rfl Try.func6 (by kernel_rfl) rfl #[] rfl (by (try simp only [List.map_toArray, List.map_cons, List.map_nil]); first | done | rfl | (simp only [List.length_drop, List.length_take]; rfl)) ?_; (with_reducible refine (porterlaw22_awake.calls  true _ A4.out).mono ?_); rintro e w19 ⟨rfl, hb⟩; refine ⟨_, rfl, ?_⟩; have n0_ := Aside0.mk (below_step (by repeat (first | (with_reducible first | exact HB.out | apply below_alloc | apply pw_below_drewN | apply below_drew1) | exact HB.out)) hb); clear HB; have HB := n0_; clear n0_; (try clear hb); (try clear hb2); (try clear hk); (try clear hi)) | ((with_reducible refine gate_callee (f := 10) rfl ?_); refine goesL_ (some 11) rfl rfl Try.func10 (by kernel_rfl) rfl #[.slice A0 l0.length c0, .slice A2 l2.length c2] rfl (by (try simp only [List.map_toArray, List.map_cons, List.map_nil]); first | done | rfl | (simp only [List.length_drop, List.length_take]; rfl)) ?_; (with_reducible refine (watch_Play.calls _ _ l0 _ _ l2 t277 _ ?side1 ?side2 ?side3 ?side4 A6.out).mono ?_); (case side1 => repeat (first | exact (Kd.C_below HR0.out HB.out) | (with_reducible refine Kd.C_alloc ?_ _) | (with_reducible refine Kd.C_drewN ?_ _) | (with_reducible refine Kd.C_drew ?_))); (case side2 => exact HC0.out); (case side3 => repeat (first | exact (Kd.C_below HR2.out HB.out) | (with_reducible refine Kd.C_alloc ?_ _) | (with_reducible refine Kd.C_drewN ?_ _) | (with_reducible refine Kd.C_drew ?_))); (case side4 => exact HC2.out); rintro e w20 ⟨v278, rfl, ho0, hb⟩; refine ⟨_, rfl, ?_⟩; have n0_ := Aside0.mk (Kd.R_lower ho0 (below_size (by repeat (first | (with_reducible first | exact HB.out | apply below_alloc | apply pw_below_drewN | apply below_drew1) | exact HB.out)))); have n1_ := Aside0.mk (below_step (by repeat (first | (with_reducible first | exact HB.out | apply below_alloc | apply pw_below_drewN | apply below_drew1) | exact HB.out)) hb); clear HB; have HO279 := n0_; have HB := n1_; clear n0_ n1_; (try clear hb); (try clear hb2); (try clear hk); (try clear hi); (try clear ho0)) | ((with_reducible refine gate_callee (f := 13) rfl ?_); refine goesL_ (some 14) rfl rfl Try.func13 (by kernel_rfl) rfl #[.slice A2 l2.length c2] rfl (by (try simp only [List.map_toArray, List.map_cons, List.map_nil]); first | done | rfl | (simp only [List.length_drop, List.length_take]; rfl)) ?_; (with_reducible refine (porterlaw22_plain.calls k _ _ l2 t280 _ ?side1 ?side2 A7.out).mono ?_); (case side1 => repeat (first | exact (Kd.C_below HR2.out HB.out) | (with_reducible refine Kd.C_alloc ?_ _) | (with_reducible refine Kd.C_drewN ?_ _) | (with_reducible refine Kd.C_drew ?_))); (case side2 => exact HC2.out); rintro e w21 ⟨v281, rfl, ho0, hb⟩; refine ⟨_, rfl, ?_⟩; have n0_ := Aside0.mk (Kd.R_below (by (with_reducible repeat (first | apply Kd.R_alloc | apply Kd.R_drewN | apply Kd.R_drew)); exact HO279.out) hb); have n1_ := Aside0.mk (Kd.R_lower ho0 (below_size (by repeat (first | (with_reducible first | exact HB.out | apply below_alloc | apply pw_below_drewN | apply below_drew1) | exact HB.out)))); have n2_ := Aside0.mk (below_step (by repeat (first | (with_reducible first | exact HB.out | apply below_alloc | apply pw_below_drewN | apply below_drew1) | exact HB.out)) hb); clear HO279; clear HB; have HO279 := n0_; have HO282 := n1_; have HB := n2_; clear n0_ n1_ n2_; (try clear hb); (try clear hb2); (try clear hk); (try clear hi); (try clear ho0); obtain ⟨Ao22, co22, eo22⟩ := Kd.R_slice HO282.out; subst eo22) | ((with_reducible refine gate_callee (f := 12) rfl ?_); refine goesL_ (some 15) rfl rfl Try.func12 (by kernel_rfl) rfl #[.slice A0 l0.length c0, .slice Ao22 t280.length co22] rfl (by (try simp only [List.map_toArray, List.map_cons, List.map_nil]); first | done | rfl | (simp only [List.length_drop, List.length_take]; rfl)) ?_; (with_reducible refine (porterref22_Play.calls k _ _ l0 _ _ t280 t283 _ ?side1 ?side2 ?side3 ?side4 A8.out).mono ?_); (case side1 => repeat (first | exact (Kd.C_below HR0.out HB.out) | (with_reducible refine Kd.C_alloc ?_ _) | (with_reducible refine Kd.C_drewN ?_ _) | (with_reducible refine Kd.C_drew ?_))); (case side2 => exact HC0.out); (case side3 => repeat (first | exact (Kd.R_reads' HO282.out).2.2 | (with_reducible refine Kd.C_alloc ?_ _) | (with_reducible refine Kd.C_drewN ?_ _) | (with_reducible refine Kd.C_drew ?_))); (case side4 => exact (Kd.R_reads' HO282.out).2.1); rintro e w23 ⟨v284, rfl, ho0, hb⟩; refine ⟨_, rfl, ?_⟩; have n0_ := Aside0.mk (Kd.R_elder' (by (with_reducible repeat (first | apply Kd.R_alloc | apply Kd.R_drewN | apply Kd.R_drew)); exact HO279.out) (Kd.R_base ho0) hb); have n1_ := Aside0.mk (Kd.R_below (by (with_reducible repeat (first | apply Kd.R_alloc | apply Kd.R_drewN | apply Kd.R_drew)); exact HO282.out) hb); have n2_ := Aside0.mk (Kd.R_lower (Kd.R_new' ho0 (Kd.R_lt (by (with_reducible repeat (first | apply Kd.R_alloc | apply Kd.R_drewN | apply Kd.R_drew)); exact HO279.out))) (below_size (by repeat (first | (with_reducible first | exact HB.out | apply below_alloc | apply pw_below_drewN | apply below_drew1) | exact HB.out)))); have n3_ := Aside0.mk (below_step (by repeat (first | (with_reducible first | exact HB.out | apply below_alloc | apply pw_below_drewN | apply below_drew1) | exact HB.out)) hb); clear HO279; clear HO282; clear HB; have HO279 := n0_; have HO282 := n1_; have HO285 := n2_; have HB := n3_; clear n0_ n1_ n2_ n3_; (try clear hb); (try clear hb2); (try clear hk); (try clear hi); (try clear ho0); obtain ⟨Ao24, co24, eo24⟩ := Kd.R_slice HO279.out; subst eo24; obtain ⟨Ao25, co25, eo25⟩ := Kd.R_slice HO285.out; subst eo25) | ((with_reducible refine gate_callee (f := 9) rfl ?_); refine goesL_ (some 16) rfl rfl Try.func9 (by kernel_rfl) rfl #[.slice Ao24 t277.length co24, .slice Ao25 t283.length co25] rfl (by (try simp only [List.map_toArray, List.map_cons, List.map_nil]); first | done | rfl | (simp only [List.length_drop, List.length_take]; rfl)) ?_; (with_reducible refine (porterlaw22_tuples.calls k _ _ t277 _ _ t283 true _ ?side1 ?side2 ?side3 ?side4 A9.out).mono ?_); (case side1 => repeat (first | exact (Kd.R_reads' HO279.out).2.2 | (with_reducible refine Kd.C_alloc ?_ _) | (with_reducible refine Kd.C_drewN ?_ _) | (with_reducible refine Kd.C_drew ?_))); (case side2 => exact (Kd.R_reads' HO279.out).2.1); (case side3 => repeat (first | exact (Kd.R_reads' HO285.out).2.2 | (with_reducible refine Kd.C_alloc ?_ _) | (with_reducible refine Kd.C_drewN ?_ _) | (with_reducible refine Kd.C_drew ?_))); (case side4 => exact (Kd.R_reads' HO285.out).2.1); rintro e w' ⟨rfl, ⟨nd, rfl⟩⟩; refine ⟨_, rfl, ?_⟩) | (go_at_call 7; (with_reducible refine (watch_Rows.calls _ _ l2 t287 _ ?side1 ?side2 A11.out).mono ?_); (case side1 => repeat (first | exact (Kd.C_below HR2.out (by repeat (first | (with_reducible first | exact HB.out | apply below_alloc | apply pw_below_drewN | apply below_drew1) | exact HB.out))) | (with_reducible refine Kd.C_alloc ?_ _) | (with_reducible refine Kd.C_drewN ?_ _) | (with_reducible refine Kd.C_drew ?_))); (case side2 => exact HC2.out); rintro e w26 ⟨v288, rfl, ho0, hb⟩; have n0_ := Aside0.mk (Kd.R_below (by (with_reducible repeat (first | apply Kd.R_alloc | apply Kd.R_drewN | apply Kd.R_drew)); exact HO279.out) hb); have n1_ := Aside0.mk (Kd.R_below (by (with_reducible repeat (first | apply Kd.R_alloc | apply Kd.R_drewN | apply Kd.R_drew)); exact HO282.out) hb); have n2_ := Aside0.mk (Kd.R_below (by (with_reducible repeat (first | apply Kd.R_alloc | apply Kd.R_drewN | apply Kd.R_drew)); exact HO285.out) hb); have n3_ := Aside0.mk (Kd.R_lower ho0 (below_size (by repeat (first | (with_reducible first | exact HB.out | apply below_alloc | apply pw_below_drewN | apply below_drew1) | exact HB.out)))); have n4_ := Aside0.mk (below_step (by repeat (first | (with_reducible first | exact HB.out | apply below_alloc | apply pw_below_drewN | apply below_drew1) | exact HB.out)) hb); clear HO279; clear HO282; clear HO285; clear HB; have HO279 := n0_; have HO282 := n1_; have HO285 := n2_; have HO289 := n3_; have HB := n4_; clear n0_ n1_ n2_ n3_ n4_; (try clear hb); (try clear hb2); (try clear hk); (try clear hi); (try clear ho0)) | (go_at_call 13; (with_reducible refine (porterlaw22_plain.calls k _ _ l2 t290 _ ?side1 ?side2 A12.out).mono ?_); (case side1 => repeat (first | exact (Kd.C_below HR2.out HB.out) | (with_reducible refine Kd.C_alloc ?_ _) | (with_reducible refine Kd.C_drewN ?_ _) | (with_reducible refine Kd.C_drew ?_))); (case side2 => exact HC2.out); rintro e w27 ⟨v291, rfl, ho0, hb⟩; have n0_ := Aside0.mk (Kd.R_below (by (with_reducible repeat (first | apply Kd.R_alloc | apply Kd.R_drewN | apply Kd.R_drew)); exact HO279.out) hb); have n1_ := Aside0.mk (Kd.R_elder' (by (with_reducible repeat (first | apply Kd.R_alloc | apply Kd.R_drewN | apply Kd.R_drew)); exact HO282.out) (Kd.R_base ho0) hb); have n2_ := Aside0.mk (Kd.R_below (by (with_reducible repeat (first | apply Kd.R_alloc | apply Kd.R_drewN | apply Kd.R_drew)); exact HO285.out) hb); have n3_ := Aside0.mk (Kd.R_below (by (with_reducible repeat (first | apply Kd.R_alloc | apply Kd.R_drewN | apply Kd.R_drew)); exact HO289.out) hb); have n4_ := Aside0.mk (Kd.R_lower (Kd.R_new' ho0 (Kd.R_lt (by (with_reducible repeat (first | apply Kd.R_alloc | apply Kd.R_drewN | apply Kd.R_drew)); exact HO282.out))) (below_size (by repeat (first | (with_reducible first | exact HB.out | apply below_alloc | apply pw_below_drewN | apply below_drew1) | exact HB.out)))); have n5_ := Aside0.mk (below_step (by repeat (first | (with_reducible first | exact HB.out | apply below_alloc | apply pw_below_drewN | apply below_drew1) | exact HB.out)) hb); clear HO279; clear HO282; clear HO285; clear HO289; clear HB; have HO279 := n0_; have HO282 := n1_; have HO285 := n2_; have HO289 := n3_; have HO292 := n4_; have HB := n5_; clear n0_ n1_ n2_ n3_ n4_ n5_; (try clear hb); (try clear hb2); (try clear hk); (try clear hi); (try clear ho0); obtain ⟨Ao28, co28, eo28⟩ := Kd.R_slice HO292.out; subst eo28) | (go_at_call 14; (with_reducible refine (porterref22_Rows.calls k _ _ t290 t293 _ ?side1 ?side2 A13.out).mono ?_); (case side1 => repeat (first | exact (Kd.R_reads' HO292.out).2.2 | (with_reducible refine Kd.C_alloc ?_ _) | (with_reducible refine Kd.C_drewN ?_ _) | (with_reducible refine Kd.C_drew ?_))); (case side2 => exact (Kd.R_reads' HO292.out).2.1); rintro e w29 ⟨v294, rfl, ho0, hb⟩; have n0_ := Aside0.mk (Kd.R_below (by (with_reducible repeat (first | apply Kd.R_alloc | apply Kd.R_drewN | apply Kd.R_drew)); exact HO279.out) hb); have n1_ := Aside0.mk (Kd.R_below (by (with_reducible repeat (first | apply Kd.R_alloc | apply Kd.R_drewN | apply Kd.R_drew)); exact HO282.out) hb); have n2_ := Aside0.mk (Kd.R_below (by (with_reducible repeat (first | apply Kd.R_alloc | apply Kd.R_drewN | apply Kd.R_drew)); exact HO285.out) hb); have n3_ := Aside0.mk (Kd.R_elder' (by (with_reducible repeat (first | apply Kd.R_alloc | apply Kd.R_drewN | apply Kd.R_drew)); exact HO289.out) (Kd.R_base ho0) hb); have n4_ := Aside0.mk (Kd.R_below (by (with_reducible repeat (first | apply Kd.R_alloc | apply Kd.R_drewN | apply Kd.R_drew)); exact HO292.out) hb); have n5_ := Aside0.mk (Kd.R_lower (Kd.R_new' ho0 (Kd.R_lt (by (with_reducible repeat (first | apply Kd.R_alloc | apply Kd.R_drewN | apply Kd.R_drew)); exact HO289.out))) (below_size (by repeat (first | (with_reducible first | exact HB.out | apply below_alloc | apply pw_below_drewN | apply below_drew1) | exact HB.out)))); have n6_ := Aside0.mk (below_step (by repeat (first | (with_reducible first | exact HB.out | apply below_alloc | apply pw_below_drewN | apply below_drew1) | exact HB.out)) hb); clear HO279; clear HO282; clear HO285; clear HO289; clear HO292; clear HB; have HO279 := n0_; have HO282 := n1_; have HO285 := n2_; have HO289 := n3_; have HO292 := n4_; have HO295 := n5_; have HB := n6_; clear n0_ n1_ n2_ n3_ n4_ n5_ n6_; (try clear hb); (try clear hb2); (try clear hk); (try clear hi); (try clear ho0); obtain ⟨Ao30, co30, eo30⟩ := Kd.R_slice HO289.out; subst eo30; obtain ⟨Ao31, co31, eo31⟩ := Kd.R_slice HO295.out; subst eo31) | (go_at_call 11; (with_reducible refine (porterref07_Same.calls k _ _ t287 _ _ t293 true _ ?side1 ?side2 ?side3 ?side4 A14.out).mono ?_); (case side1 => repeat (first | exact (Kd.R_reads' HO289.out).2.2 | (with_reducible refine Kd.C_alloc ?_ _) | (with_reducible refine Kd.C_drewN ?_ _) | (with_reducible refine Kd.C_drew ?_))); (case side2 => exact (Kd.R_reads' HO289.out).2.1); (case side3 => repeat (first | exact (Kd.R_reads' HO295.out).2.2 | (with_reducible refine Kd.C_alloc ?_ _) | (with_reducible refine Kd.C_drewN ?_ _) | (with_reducible refine Kd.C_drew ?_))); (case side4 => exact (Kd.R_reads' HO295.out).2.1); rintro e w' ⟨rfl, ⟨nd, rfl⟩⟩) | (go_at_call 16; (with_reducible refine (watch_Net.calls _ _ l0 _ _ l1 t297 _ ?side1 ?side2 ?side3 ?side4 A16.out).mono ?_); (case side1 => repeat (first | exact (Kd.C_below HR0.out (by repeat (first | (with_reducible first | exact HB.out | apply below_alloc | apply pw_below_drewN | apply below_drew1) | exact HB.out))) | (with_reducible refine Kd.C_alloc ?_ _) | (with_reducible refine Kd.C_drewN ?_ _) | (with_reducible refine Kd.C_drew ?_))); (case side2 => exact HC0.out); (case side3 => repeat (first | exact (Kd.C_below HR1.out (by repeat (first | (with_reducible first | exact HB.out | apply below_alloc | apply pw_below_drewN | apply below_drew1) | exact HB.out))) | (with_reducible refine Kd.C_alloc ?_ _) | (with_reducible refine Kd.C_drewN ?_ _) | (with_reducible refine Kd.C_drew ?_))); (case side4 => exact HC1.out); rintro e w32 ⟨v298, rfl, ho0, hb⟩; have n0_ := Aside0.mk (Kd.R_below (by (with_reducible repeat (first | apply Kd.R_alloc | apply Kd.R_drewN | apply Kd.R_drew)); exact HO279.out) hb); have n1_ := Aside0.mk (Kd.R_below (by (with_reducible repeat (first | apply Kd.R_alloc | apply Kd.R_drewN | apply Kd.R_drew)); exact HO282.out) hb); have n2_ := Aside0.mk (Kd.R_below (by (with_reducible repeat (first | apply Kd.R_alloc | apply Kd.R_drewN | apply Kd.R_drew)); exact HO285.out) hb); have n3_ := Aside0.mk (Kd.R_below (by (with_reducible repeat (first | apply Kd.R_alloc | apply Kd.R_drewN | apply Kd.R_drew)); exact HO289.out) hb); have n4_ := Aside0.mk (Kd.R_below (by (with_reducible repeat (first | apply Kd.R_alloc | apply Kd.R_drewN | apply Kd.R_drew)); exact HO292.out) hb); have n5_ := Aside0.mk (Kd.R_below (by (with_reducible repeat (first | apply Kd.R_alloc | apply Kd.R_drewN | apply Kd.R_drew)); exact HO295.out) hb); have n6_ := Aside0.mk (Kd.R_lower ho0 (below_size (by repeat (first | (with_reducible first | exact HB.out | apply below_alloc | apply pw_below_drewN | apply below_drew1) | exact HB.out)))); have n7_ := Aside0.mk (below_step (by repeat (first | (with_reducible first | exact HB.out | apply below_alloc | apply pw_below_drewN | apply below_drew1) | exact HB.out)) hb); clear HO279; clear HO282; clear HO285; clear HO289; clear HO292; clear HO295; clear HB; have HO279 := n0_; have HO282 := n1_; have HO285 := n2_; have HO289 := n3_; have HO292 := n4_; have HO295 := n5_; have HO299 := n6_; have HB := n7_; clear n0_ n1_ n2_ n3_ n4_ n5_ n6_ n7_; (try clear hb); (try clear hb2); (try clear hk); (try clear hi); (try clear ho0)) | (go_at_call 17; (with_reducible refine (porterref22_Net.calls k _ _ l0 _ _ l1 t300 _ ?side1 ?side2 ?side3 ?side4 A17.out).mono ?_); (case side1 => repeat (first | exact (Kd.C_below HR0.out HB.out) | (with_reducible refine Kd.C_alloc ?_ _) | (with_reducible refine Kd.C_drewN ?_ _) | (with_reducible refine Kd.C_drew ?_))); (case side2 => exact HC0.out); (case side3 => repeat (first | exact (Kd.C_below HR1.out HB.out) | (with_reducible refine Kd.C_alloc ?_ _) | (with_reducible refine Kd.C_drewN ?_ _) | (with_reducible refine Kd.C_drew ?_))); (case side4 => exact HC1.out); rintro e w33 ⟨v301, rfl, ho0, hb⟩; have n0_ := Aside0.mk (Kd.R_below (by (with_reducible repeat (first | apply Kd.R_alloc | apply Kd.R_drewN | apply Kd.R_drew)); exact HO279.out) hb); have n1_ := Aside0.mk (Kd.R_below (by (with_reducible repeat (first | apply Kd.R_alloc | apply Kd.R_drewN | apply Kd.R_drew)); exact HO282.out) hb); have n2_ := Aside0.mk (Kd.R_below (by (with_reducible repeat (first | apply Kd.R_alloc | apply Kd.R_drewN | apply Kd.R_drew)); exact HO285.out) hb); have n3_ := Aside0.mk (Kd.R_below (by (with_reducible repeat (first | apply Kd.R_alloc | apply Kd.R_drewN | apply Kd.R_drew)); exact HO289.out) hb); have n4_ := Aside0.mk (Kd.R_below (by (with_reducible repeat (first | apply Kd.R_alloc | apply Kd.R_drewN | apply Kd.R_drew)); exact HO292.out) hb); have n5_ := Aside0.mk (Kd.R_below (by (with_reducible repeat (first | apply Kd.R_alloc | apply Kd.R_drewN | apply Kd.R_drew)); exact HO295.out) hb); have n6_ := Aside0.mk (Kd.R_elder' (by (with_reducible repeat (first | apply Kd.R_alloc | apply Kd.R_drewN | apply Kd.R_drew)); exact HO299.out) (Kd.R_base ho0) hb); have n7_ := Aside0.mk (Kd.R_lower (Kd.R_new' ho0 (Kd.R_lt (by (with_reducible repeat (first | apply Kd.R_alloc | apply Kd.R_drewN | apply Kd.R_drew)); exact HO299.out))) (below_size (by repeat (first | (with_reducible first | exact HB.out | apply below_alloc | apply pw_below_drewN | apply below_drew1) | exact HB.out)))); have n8_ := Aside0.mk (below_step (by repeat (first | (with_reducible first | exact HB.out | apply below_alloc | apply pw_below_drewN | apply below_drew1) | exact HB.out)) hb); clear HO279; clear HO282; clear HO285; clear HO289; clear HO292; clear HO295; clear HO299; clear HB; have HO279 := n0_; have HO282 := n1_; have HO285 := n2_; have HO289 := n3_; have HO292 := n4_; have HO295 := n5_; have HO299 := n6_; have HO302 := n7_; have HB := n8_; clear n0_ n1_ n2_ n3_ n4_ n5_ n6_ n7_ n8_; (try clear hb); (try clear hb2); (try clear hk); (try clear hi); (try clear ho0); obtain ⟨Ao34, co34, eo34⟩ := Kd.R_slice HO299.out; subst eo34; obtain ⟨Ao35, co35, eo35⟩ := Kd.R_slice HO302.out; subst eo35) | (go_at_call 15; (with_reducible refine (porterlaw22_mutations.calls k _ _ t297 _ _ t300 t303 _ ?side1 ?side2 ?side3 ?side4 A18.out).mono ?_); (case side1 => repeat (first | exact (Kd.R_reads' HO299.out).2.2 | (with_reducible refine Kd.C_alloc ?_ _) | (with_reducible refine Kd.C_drewN ?_ _) | (with_reducible refine Kd.C_drew ?_))); (case side2 => exact (Kd.R_reads' HO299.out).2.1); (case side3 => repeat (first | exact (Kd.R_reads' HO302.out).2.2 | (with_reducible refine Kd.C_alloc ?_ _) | (with_reducible refine Kd.C_drewN ?_ _) | (with_reducible refine Kd.C_drew ?_))); (case side4 => exact (Kd.R_reads' HO302.out).2.1); rintro e w' ⟨rfl, ⟨nd, rfl⟩⟩))
        go_ret
        exact ⟨by first | rfl | (simp [errW_none, errW_some] <;> rfl) | (simp [*, errW_none, errW_some] <;> rfl), by repeat (first | (with_reducible first | exact HB.out | apply below_alloc | apply pw_below_drewN | apply below_drew1) | exact HB.out)⟩
      · replace c15 := Bool.eq_false_iff.mpr c15
        subst c15
        have H1 : (some false) = some r := by rw [if_neg (show ¬ (false = true) by decide)] at H; exact H
        clear H
        have H := H1
        clear H1
        exact absurd ((Option.some.inj H).trans hT.out) (by decide)
    · replace c10 := Bool.eq_false_iff.mpr c10
      subst c10
      have H1 : (some false) = some r := by rw [if_neg (show ¬ (false = true) by decide)] at H; exact H
      clear H
      have H := H1
      clear H1
      exact absurd ((Option.some.inj H).trans hT.out) (by decide)
  · replace c5 := Bool.eq_false_iff.mpr c5
    subst c5
    have H1 : (some false) = some r := by rw [if_neg (show ¬ (false = true) by decide)] at H; exact H
    clear H
    have H := H1
    clear H1
    exact absurd ((Option.some.inj H).trans hT.out) (by decide)

end Go.Proofs.Ytgjkidclpehnjaa.Pr

namespace Go.Proofs.Ytgjkidclpehnjaa.Pr
open Go.Proofs.Ytgjkidclpehnjaa Go.Sort Go.RowKit

theorem putAll_len (ts : List T) : ∀ acc : List T, (ts.foldl putT acc).length ≤ acc.length + ts.length := by
  induction ts with
  | nil => intro acc; simp
  | cons t ts ih =>
    intro acc
    have h := ih (putT acc t)
    have h1 : (putT acc t).length ≤ acc.length + 1 := by unfold putT; split <;> simp
    rw [List.foldl_cons, List.length_cons]; omega
theorem playAll_len (cs : List Ch) : ∀ acc : List T, (cs.foldl playDo acc).length ≤ acc.length + cs.length := by
  induction cs with
  | nil => intro acc; simp
  | cons t ts ih =>
    intro acc
    have h := ih (playDo acc t)
    have h1 : (playDo acc t).length ≤ acc.length + 1 := by
      unfold playDo
      split
      · exact Nat.le_trans (List.length_filter_le _ _) (by omega)
      · unfold putT; split <;> simp
    rw [List.foldl_cons, List.length_cons]; omega
theorem playL_len' (ts : List T) (cs : List Ch) : (playL ts cs).length ≤ ts.length + cs.length := by
  unfold playL
  have h1 := putAll_len ts []
  have h2 := playAll_len cs (ts.foldl putT [])
  simp at h1; omega
theorem netL_len' (a b : List T) : (netL a b).length ≤ a.length + b.length := by
  unfold netL
  rw [List.length_append, List.length_map, List.length_map]
  exact Nat.add_le_add (List.length_filter_le _ _) (List.length_filter_le _ _)

theorem bind_of {α β : Type} {o : Option α} {v : α} {g : α → Option β} {r : Option β} (h : o = some v) (h2 : g v = r) : o.bind g = r := by subst h; exact h2
theorem does_at (K : Nat) (l0 l1 : List T) (l2 : List Ch) (q : List S65) (a : List T) (b : List Ro) (c : List Mu)
    (p1 : watch_Play.f l0 l2 = some a) (p2 : watch_Rows.f l2 = some b) (p3 : watch_Net.f l0 l1 = some c)
    (e1 : porterlaw22_plain.f K l2 = some q) (e2 : porterref22_Play.f K l0 q = some a) (e3 : porterref22_Rows.f K q = some b) (e4 : porterref22_Net.f K l0 l1 = some c)
    (t1 : porterlaw22_tuples.f K a a = some true) (t2 : porterref07_Same.f K b b = some true) (t3 : porterlaw22_mutations.f K c c = some true) : porterlaw22_WatchDoes.f K l0 l1 l2 = some true := by
  unfold porterlaw22_WatchDoes.f
  refine bind_of awake_yes ?_
  refine (if_pos rfl).trans ?_
  refine bind_of p1 ?_
  refine bind_of e1 ?_
  refine bind_of e2 ?_
  refine bind_of t1 ?_
  refine (if_pos rfl).trans ?_
  refine bind_of p2 ?_
  refine bind_of e1 ?_
  refine bind_of e3 ?_
  refine bind_of t2 ?_
  refine (if_pos rfl).trans ?_
  refine bind_of p3 ?_
  refine bind_of e4 ?_
  refine bind_of t3 ?_
  rfl
theorem WatchDoes_plain (l0 l1 : List T) (l2 : List Ch) (h0 : l0.length ≤ 1048576) (h1 : l1.length ≤ 1048576) (h2 : l2.length ≤ 1048576) : ∃ k, porterlaw22_WatchDoes.f k l0 l1 l2 = some true := by
  obtain ⟨k1, e1⟩ := plain_ev l2 (by omega)
  obtain ⟨k2, e2⟩ := Play_ev l0 l2 h0 h2
  obtain ⟨k3, e3⟩ := Rows_ev l2 h2
  obtain ⟨k4, e4⟩ := Net_ev l0 l1 h0 h1
  have p1 : watch_Play.f l0 l2 = some (msort ltT (playL l0 l2)) := by
    unfold watch_Play.f
    rw [if_pos (tiny_of (by omega)), if_pos (tiny_of (by omega))]
  have p2 : watch_Rows.f l2 = some (msort ltRo (rowsL l2)) := by
    unfold watch_Rows.f
    rw [if_pos (tiny_of (by omega))]
  have p3 : watch_Net.f l0 l1 = some (compactL (msort ltMu (netL l0 l1))) := by
    unfold watch_Net.f
    rw [if_pos (tiny_of (by omega)), if_pos (tiny_of (by omega))]
  have n1 := playL_len' l0 l2
  have n2 := rows_len l2
  have n3 := netL_len' l0 l1
  have n4 := compactL_len (msort ltMu (netL l0 l1))
  rw [msort_len] at n4
  obtain ⟨K, hK⟩ : ∃ K : Nat, k1 ≤ K ∧ k2 ≤ K ∧ k3 ≤ K ∧ k4 ≤ K ∧ l0.length + l1.length + l2.length < K := ⟨k1 + k2 + k3 + k4 + (l0.length + l1.length + l2.length) + 1, by omega⟩
  have u1 : (msort ltT (playL l0 l2)).length < K := by rw [msort_len]; omega
  have u2 : (msort ltRo (rowsL l2)).length < K := by rw [msort_len]; omega
  have u3 : (compactL (msort ltMu (netL l0 l1))).length < K := by omega
  exact ⟨K, does_at K l0 l1 l2 _ _ _ _ p1 p2 p3 (e1 K hK.1) (e2 K hK.2.1) (e3 K hK.2.2.1) (e4 K hK.2.2.2.1)
    (tuples_f_self _ (by rw [msort_len]; omega) K u1) (same_f_self _ (by rw [msort_len]; omega) K u2) (muts_f_self _ (by omega) K u3)⟩
end Go.Proofs.Ytgjkidclpehnjaa.Pr

namespace Go.Proofs.Ytgjkidclpehnjaa.watchDoes
open Go.ChangeShapes Go.WideShapes Go.ChangeAt Go.RowKit Go.Proofs.Ytgjkidclpehnjaa.Pr

theorem own : ownKnob Try.prog.godebug = none := by kernel_rfl
theorem laidOut : laidOutB Try.prog = true := by kernel_rfl

set_option maxRecDepth 1000000 in
theorem contract (H : Type) (enc : TypeId × Value → H) (W : World) (base : Nat) (args : Array Value) (ds gs : List (DataW H)) (before : List MemPlace)
    (hval : ∀ (j : Nat) t v, Try.f4.params[j]? = some t → args[j]? = some v → Value.okWide Try.prog W .any base t v)
    (hW : DataW.Whole enc Try.prog Try.f4.params.toList Rows.watchDoesSpec.vars false W args.toList ds gs before) (hk : Rows.uptoSmall H (ds ++ gs) = true) :
    Calls Try.prog 4 args W fun e W' => ∃ v, e = .returned v ∧ Rows.watchDoesSpec.post enc Try.prog Try.f4 false true false false W args v W' := by
  have hW' := hW
  obtain ⟨p, q, hA0, hV, rfl, hfz, hnd⟩ := hW
  have hA : DataW.TrodAll enc Try.prog W 0 (fun _ => true) true Try.f4.params.toList args.toList ds p := hA0
  rw [Try.params4] at hA hval
  obtain ⟨v0, vs0, d0, ds0, p0, q0, hargs, rfl, rfl, h0, r0⟩ := trodAll_cons hA
  obtain ⟨v1, vs1, d1, ds1, p1, q1, rfl, rfl, rfl, h1, r1⟩ := trodAll_cons r0
  obtain ⟨v2, vs2, d2, ds2, p2, q2, rfl, rfl, rfl, h2, r2⟩ := trodAll_cons r1
  obtain ⟨rfl, rfl, rfl⟩ := trodAll_nil r2
  obtain rfl : args = #[v0, v1, v2] := by cases args; simp_all
  obtain ⟨rfl, rfl⟩ := trodVars_none hV
  obtain ⟨a0, len0, cap0, rfl⟩ := okWide_slice Try.underlying34 (hval 0 34 v0 rfl rfl)
  have k0 := h0
  have lt0 : ∀ x ∈ p0, x.block < W.heap.size := by obtain ⟨m, hm⟩ := k0; exact DataW.trod_lt m _ _ _ hm
  obtain ⟨l0, rfl, hc0, hb0, hC0⟩ := open_T h0
  have hu0 : l0.length ≤ 1048576 := by
    have h1 := of_decide_eq_true hk
    have h2 := bulk_mem (H := H) (d := d0) (l := [d0, d1, d2]) (by simp)
    simp only [List.append_nil] at h1
    exact Nat.le_trans hb0 (Nat.le_trans h2 h1)
  obtain ⟨a1, len1, cap1, rfl⟩ := okWide_slice Try.underlying34 (hval 1 34 v1 rfl rfl)
  have k1 := h1
  have lt1 : ∀ x ∈ p1, x.block < W.heap.size := by obtain ⟨m, hm⟩ := k1; exact DataW.trod_lt m _ _ _ hm
  obtain ⟨l1, rfl, hc1, hb1, hC1⟩ := open_T h1
  have hu1 : l1.length ≤ 1048576 := by
    have h1 := of_decide_eq_true hk
    have h2 := bulk_mem (H := H) (d := d1) (l := [d0, d1, d2]) (by simp)
    simp only [List.append_nil] at h1
    exact Nat.le_trans hb1 (Nat.le_trans h2 h1)
  obtain ⟨a2, len2, cap2, rfl⟩ := okWide_slice Try.underlying22 (hval 2 22 v2 rfl rfl)
  have k2 := h2
  have lt2 : ∀ x ∈ p2, x.block < W.heap.size := by obtain ⟨m, hm⟩ := k2; exact DataW.trod_lt m _ _ _ hm
  obtain ⟨l2, rfl, hc2, hb2, hC2⟩ := open_Ch h2
  have hu2 : l2.length ≤ 1048576 := by
    have h1 := of_decide_eq_true hk
    have h2 := bulk_mem (H := H) (d := d2) (l := [d0, d1, d2]) (by simp)
    simp only [List.append_nil] at h1
    exact Nat.le_trans hb2 (Nat.le_trans h2 h1)
  obtain ⟨k, hp⟩ := WatchDoes_plain l0 l1 l2 hu0 hu1 hu2
  clear hA0 hk
  refine (porterlaw22_WatchDoes.calls k a0 cap0 l0 a1 cap1 l1 a2 cap2 l2 true W hC0 hc0 hC1 hc1 hC2 hc2 hp rfl).mono fun e W' ⟨he, bel⟩ => ?_
  subst he
  exact ⟨_, rfl, _, _, _, [], _, [], hW', trodAll_mk1 (shut_bool Try.underlying4 _), (trodAll_cons_mk (Below.trod laidOut (by kernel_rfl) (of_decide_eq_true (by kernel_rfl)) k0 bel lt0) (trodAll_cons_mk (Below.trod laidOut (by kernel_rfl) (of_decide_eq_true (by kernel_rfl)) k1 bel lt1) (trodAll_cons_mk (Below.trod laidOut (by kernel_rfl) (of_decide_eq_true (by kernel_rfl)) k2 bel lt2) trodAll_mk0))), rfl, bel.frame _, fun h => by cases h⟩

set_option maxRecDepth 100000 in
theorem lifted (os : Os) (started : os.Started) (H : Type) (enc : TypeId × Value → H) (F : Stop.Interp) :
    ReturnsInHanded {} Try.checked os 4 .any ((Rows.OpenSpec.upto Rows.watchDoesSpec).pre6 enc Try.prog Try.f4 Rows.watchDoesUptoRow.domain false) (((Rows.OpenSpec.upto Rows.watchDoesSpec).at F).post enc Try.prog Try.f4 false true false false) := by
  refine returnsInHanded_of_cond (C := Try.checked) (s := Rows.OpenSpec.upto Rows.watchDoesSpec) (k := Rows.uptoSmall) rfl own started (by kernel_rfl) Try.func4
    (OpenSpec.witness (enc := enc) (C := Try.checked) (s := Rows.OpenSpec.upto Rows.watchDoesSpec) (k := Rows.uptoSmall) rfl false ⟨#[], #[.slice none 0 0, .slice none 0 0, .slice none 0 0], []⟩ 8 (by kernel_rfl) (by kernel_rfl) (by kernel_rfl)
      (x := ([.nil, .nil, .nil], [], [])) (by kernel_rfl) rfl (by kernel_rfl)) ?_
  intro W base args ds gs before hval hW _ hk _
  exact contract H enc W base args ds gs before hval hW hk

theorem over : Rows.watchDoesUptoRow.holds Try.pinned (Rows.OpenSpec.upto Rows.watchDoesSpec) :=
  OpenClaim.holds_of_cond 4 Try.f4 rfl rfl rfl rfl rfl rfl rfl ⟨rfl, rfl, rfl, rfl, rfl⟩ rfl rfl rfl rfl rfl (by kernel_rfl) Try.func4 (by kernel_rfl)
    (of_decide_eq_true (by kernel_rfl)) (by unfold Func.isWrapper; first | (rw [if_pos (by decide +kernel)]; kernel_rfl) | (rw [if_neg (by decide +kernel)]; exact ⟨rfl, rfl⟩))
    (fun os started H enc _ F => lifted os started H enc F)

theorem proved : Rows.WatchDoesUptoSaid := over
end Go.Proofs.Ytgjkidclpehnjaa.watchDoes
namespace Go.Proofs.Ytgjkidclpehnjaa
/-- The row, under a short name, for the claim. -/
theorem watchDoesUpto_holds : Rows.WatchDoesUptoSaid := watchDoes.proved
end Go.Proofs.Ytgjkidclpehnjaa
