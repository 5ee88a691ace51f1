/- A part of the proof of the law; the last part states it: whatever the law reads, of bulk at most 2^20, it returns true and what it reads is as it was. Condition: the form's own bound. -/
import Derived.Test.YtgjkidclpehnjaaDo2
import Derived.Test.YtgjkidclpehnjaaDo4
import Derived.Test.YtgjkidclpehnjaaDo3
set_option linter.unusedVariables false
set_option linter.unusedSimpArgs false
namespace Go.Proofs.Ytgjkidclpehnjaa.Pr
open Go.RowKit Go.Proofs.YtgjkidclpehnjaaW.PrintWords Go.Proofs.YtgjkidclpehnjaaW.PrintLast Go.Proofs.YtgjkidclpehnjaaW.PrintMore
attribute [local go_sem] max2_int min2_int max_two min_two max_three min_three max_four min_four   -- for this text's walks alone
set_option linter.unusedVariables false
set_option linter.unusedSimpArgs false

attribute [local go_sem high] eqA25
/-! ### porterref22_Rows: function 14 -/
mutual
def porterref22_Rows.l0 : Nat → List (S65) → List (S51) → Int → Option ((List (S51)))
  | 0, _, _, _ => none
  | k + 1, x0, x3, x4 => if x4 < (x0.length : Int) then (if 0 ≤ x4 then (porterref22_Rows.l1 k x0 x3 x4 (-1) 0 ((rd_T65 x0 x4).f0) ((rd_T65 x0 x4).f1) ((rd_T65 x0 x4).f2.f0) ((rd_T65 x0 x4).f2.f1) ((rd_T65 x0 x4).f2.f2)) else (none)) else (porterref22_Rows.l2 k x3 ([] : List (S51)) 0)
def porterref22_Rows.l1 : Nat → List (S65) → List (S51) → Int → Int → Int → Int → Bool → ByteArray → ByteArray → ByteArray → Option ((List (S51)))
  | 0, _, _, _, _, _, _, _, _, _, _ => none
  | k + 1, x0, x3, x4, x6, x7, x200000, x200001, x200002, x200003, x200004 => if x7 < (x3.length : Int) then (if 0 ≤ x7 then (if ((((rd_T51 x3 x7).f0.f0).toList) == x200002.toList && ((((rd_T51 x3 x7).f0.f1).toList) == x200003.toList && ((((rd_T51 x3 x7).f0.f2).toList) == x200004.toList))) = true then (if ((rd_T51 x3 x7).f2) = 0 then (porterref22_Rows.l1 k x0 x3 x4 x7 (wrap64 (x7 + 1)) x200000 x200001 x200002 x200003 x200004) else (porterref22_Rows.l1 k x0 x3 x4 x6 (wrap64 (x7 + 1)) x200000 x200001 x200002 x200003 x200004)) else (porterref22_Rows.l1 k x0 x3 x4 x6 (wrap64 (x7 + 1)) x200000 x200001 x200002 x200003 x200004)) else (none)) else (if x200001 = true then (porterref22_Rows.j2 k x0 x3 x4 x6 (decide (x6 ≥ 0)) x200000 x200001 x200002 x200003 x200004) else (porterref22_Rows.j2 k x0 x3 x4 x6 false x200000 x200001 x200002 x200003 x200004))
def porterref22_Rows.j2 : Nat → List (S65) → List (S51) → Int → Int → Bool → Int → Bool → ByteArray → ByteArray → ByteArray → Option ((List (S51)))
  | 0, _, _, _, _, _, _, _, _, _, _ => none
  | k + 1, x0, x3, x4, x6, x50, x200000, x200001, x200002, x200003, x200004 => if x50 = true then (if 0 ≤ x6 then (if x6 < (x3.length : Int) then ((some (x3.set (x6 : Int).toNat (⟨(⟨(rd_T51 x3 x6).f0.f0, (rd_T51 x3 x6).f0.f1, (rd_T51 x3 x6).f0.f2⟩ : S25), (rd_T51 x3 x6).f1, x200000⟩ : S51) : List (S51))).bind fun y202 => (if x200001 = true then (porterref22_Rows.l0 k x0 y202 (wrap64 (x4 + 1))) else (if x6 < 0 then (if y202.length < 2199023255552 then (porterref22_Rows.l0 k x0 (y202 ++ [(⟨(⟨x200002, x200003, x200004⟩ : S25), x200000, 0⟩ : S51)]) (wrap64 (x4 + 1))) else (none)) else (porterref22_Rows.l0 k x0 y202 (wrap64 (x4 + 1)))))) else (none)) else (none)) else (if x200001 = true then (porterref22_Rows.l0 k x0 x3 (wrap64 (x4 + 1))) else (if x6 < 0 then (if x3.length < 2199023255552 then (porterref22_Rows.l0 k x0 (x3 ++ [(⟨(⟨x200002, x200003, x200004⟩ : S25), x200000, 0⟩ : S51)]) (wrap64 (x4 + 1))) else (none)) else (porterref22_Rows.l0 k x0 x3 (wrap64 (x4 + 1)))))
def porterref22_Rows.l2 : Nat → List (S51) → List (S51) → Int → Option ((List (S51)))
  | 0, _, _, _ => none
  | k + 1, x3, x8, x9 => if x9 < (x3.length : Int) then (porterref22_Rows.l3 k x3 x8 x9 (x8.length : Int)) else (some x8)
def porterref22_Rows.l3 : Nat → List (S51) → List (S51) → Int → Int → Option ((List (S51)))
  | 0, _, _, _, _ => none
  | k + 1, x3, x8, x9, x10 => if x10 > 0 then (if 0 ≤ x9 then (if x9 < (x3.length : Int) then (if 0 ≤ (wrap64 (x10 - 1)) then (if (wrap64 (x10 - 1)) < (x8.length : Int) then ((porterref07_Before.f ((rd_T51 x3 x9).f0.f0) ((rd_T51 x3 x9).f0.f1) ((rd_T51 x3 x9).f0.f2) ((rd_T51 x3 x9).f1) ((rd_T51 x3 x9).f2) ((rd_T51 x8 (wrap64 (x10 - 1))).f0.f0) ((rd_T51 x8 (wrap64 (x10 - 1))).f0.f1) ((rd_T51 x8 (wrap64 (x10 - 1))).f0.f2) ((rd_T51 x8 (wrap64 (x10 - 1))).f1) ((rd_T51 x8 (wrap64 (x10 - 1))).f2)).bind fun t211 => (if t211 = true then (porterref22_Rows.l3 k x3 x8 x9 (wrap64 (x10 - 1))) else ((some (([] : List (S51)) : List (S51))).bind fun y212 => (if 0 ≤ x10 then (if x10 ≤ (x8.length : Int) then ((some (x8.take (x10 : Int).toNat : List (S51))).bind fun y215 => (if y212.length + y215.length < 2199023255552 then ((some (y212 ++ y215 : List (S51))).bind fun y219 => (if y219.length < 2199023255552 then ((some (y219 ++ [(⟨(⟨(rd_T51 x3 x9).f0.f0, (rd_T51 x3 x9).f0.f1, (rd_T51 x3 x9).f0.f2⟩ : S25), (rd_T51 x3 x9).f1, (rd_T51 x3 x9).f2⟩ : S51)] : List (S51))).bind fun y223 => ((some (x8.drop (x10 : Int).toNat : List (S51))).bind fun y226 => (if y223.length + y226.length < 2199023255552 then (porterref22_Rows.l2 k x3 (y223 ++ y226) (wrap64 (x9 + 1))) else (none)))) else (none))) else (none))) else (none)) else (none))))) else (none)) else (none)) else (none)) else (none)) else ((some (([] : List (S51)) : List (S51))).bind fun y233 => (if 0 ≤ x10 then (if x10 ≤ (x8.length : Int) then ((some (x8.take (x10 : Int).toNat : List (S51))).bind fun y236 => (if y233.length + y236.length < 2199023255552 then ((some (y233 ++ y236 : List (S51))).bind fun y240 => (if 0 ≤ x9 then (if x9 < (x3.length : Int) then (if y240.length < 2199023255552 then ((some (y240 ++ [(⟨(⟨(rd_T51 x3 x9).f0.f0, (rd_T51 x3 x9).f0.f1, (rd_T51 x3 x9).f0.f2⟩ : S25), (rd_T51 x3 x9).f1, (rd_T51 x3 x9).f2⟩ : S51)] : List (S51))).bind fun y244 => ((some (x8.drop (x10 : Int).toNat : List (S51))).bind fun y247 => (if y244.length + y247.length < 2199023255552 then (porterref22_Rows.l2 k x3 (y244 ++ y247) (wrap64 (x9 + 1))) else (none)))) else (none)) else (none)) else (none))) else (none))) else (none)) else (none)))
end
def porterref22_Rows.f (k : Nat) (l0 : List (S65)) : Option ((List (S51))) := porterref22_Rows.l0 k l0 ([] : List (S51)) 0
theorem porterref22_Rows.mono_l : ∀ k, (∀ y0 y1 y2, LeO (porterref22_Rows.l0 k y0 y1 y2) (porterref22_Rows.l0 (k + 1) y0 y1 y2)) ∧ (∀ y0 y1 y2 y3 y4 y5 y6 y7 y8 y9, LeO (porterref22_Rows.l1 k y0 y1 y2 y3 y4 y5 y6 y7 y8 y9) (porterref22_Rows.l1 (k + 1) y0 y1 y2 y3 y4 y5 y6 y7 y8 y9)) ∧ (∀ y0 y1 y2 y3 y4 y5 y6 y7 y8 y9, LeO (porterref22_Rows.j2 k y0 y1 y2 y3 y4 y5 y6 y7 y8 y9) (porterref22_Rows.j2 (k + 1) y0 y1 y2 y3 y4 y5 y6 y7 y8 y9)) ∧ (∀ y0 y1 y2, LeO (porterref22_Rows.l2 k y0 y1 y2) (porterref22_Rows.l2 (k + 1) y0 y1 y2)) ∧ (∀ y0 y1 y2 y3, LeO (porterref22_Rows.l3 k y0 y1 y2 y3) (porterref22_Rows.l3 (k + 1) y0 y1 y2 y3))
  | 0 => ⟨fun _ _ _ r h => by simp [porterref22_Rows.l0] at h, fun _ _ _ _ _ _ _ _ _ _ r h => by simp [porterref22_Rows.l1] at h, fun _ _ _ _ _ _ _ _ _ _ r h => by simp [porterref22_Rows.j2] at h, fun _ _ _ r h => by simp [porterref22_Rows.l2] at h, fun _ _ _ _ r h => by simp [porterref22_Rows.l3] at h⟩
  | k + 1 => by
    obtain ⟨ih0, ih1, ih2, ih3, ih4⟩ := porterref22_Rows.mono_l k
    refine ⟨?_, ?_, ?_, ?_, ?_⟩
    · intro y0 y1 y2
      unfold porterref22_Rows.l0
      repeat' first
      | (with_reducible exact ih0 _ _ _)
      | (with_reducible exact ih1 _ _ _ _ _ _ _ _ _ _)
      | (with_reducible exact ih2 _ _ _ _ _ _ _ _ _ _)
      | (with_reducible exact ih3 _ _ _)
      | (with_reducible exact ih4 _ _ _ _)
      | (with_reducible exact LeO.refl _)
      | (with_reducible exact LeO.none _)
      | (with_reducible refine LeO.ite ?_ ?_)
      | (with_reducible refine LeO.bind ?_ (fun _ => ?_))
      | exact ih0 _ _ _
      | exact ih1 _ _ _ _ _ _ _ _ _ _
      | exact ih2 _ _ _ _ _ _ _ _ _ _
      | exact ih3 _ _ _
      | exact ih4 _ _ _ _
      | exact LeO.none _
      | refine LeO.ite ?_ ?_
      | refine LeO.bind ?_ (fun _ => ?_)
    · intro y0 y1 y2 y3 y4 y5 y6 y7 y8 y9
      unfold porterref22_Rows.l1
      repeat' first
      | (with_reducible exact ih0 _ _ _)
      | (with_reducible exact ih1 _ _ _ _ _ _ _ _ _ _)
      | (with_reducible exact ih2 _ _ _ _ _ _ _ _ _ _)
      | (with_reducible exact ih3 _ _ _)
      | (with_reducible exact ih4 _ _ _ _)
      | (with_reducible exact LeO.refl _)
      | (with_reducible exact LeO.none _)
      | (with_reducible refine LeO.ite ?_ ?_)
      | (with_reducible refine LeO.bind ?_ (fun _ => ?_))
      | exact ih0 _ _ _
      | exact ih1 _ _ _ _ _ _ _ _ _ _
      | exact ih2 _ _ _ _ _ _ _ _ _ _
      | exact ih3 _ _ _
      | exact ih4 _ _ _ _
      | exact LeO.none _
      | refine LeO.ite ?_ ?_
      | refine LeO.bind ?_ (fun _ => ?_)
    · intro y0 y1 y2 y3 y4 y5 y6 y7 y8 y9
      unfold porterref22_Rows.j2
      repeat' first
      | (with_reducible exact ih0 _ _ _)
      | (with_reducible exact ih1 _ _ _ _ _ _ _ _ _ _)
      | (with_reducible exact ih2 _ _ _ _ _ _ _ _ _ _)
      | (with_reducible exact ih3 _ _ _)
      | (with_reducible exact ih4 _ _ _ _)
      | (with_reducible exact LeO.refl _)
      | (with_reducible exact LeO.none _)
      | (with_reducible refine LeO.ite ?_ ?_)
      | (with_reducible refine LeO.bind ?_ (fun _ => ?_))
      | exact ih0 _ _ _
      | exact ih1 _ _ _ _ _ _ _ _ _ _
      | exact ih2 _ _ _ _ _ _ _ _ _ _
      | exact ih3 _ _ _
      | exact ih4 _ _ _ _
      | exact LeO.none _
      | refine LeO.ite ?_ ?_
      | refine LeO.bind ?_ (fun _ => ?_)
    · intro y0 y1 y2
      unfold porterref22_Rows.l2
      repeat' first
      | (with_reducible exact ih0 _ _ _)
      | (with_reducible exact ih1 _ _ _ _ _ _ _ _ _ _)
      | (with_reducible exact ih2 _ _ _ _ _ _ _ _ _ _)
      | (with_reducible exact ih3 _ _ _)
      | (with_reducible exact ih4 _ _ _ _)
      | (with_reducible exact LeO.refl _)
      | (with_reducible exact LeO.none _)
      | (with_reducible refine LeO.ite ?_ ?_)
      | (with_reducible refine LeO.bind ?_ (fun _ => ?_))
      | exact ih0 _ _ _
      | exact ih1 _ _ _ _ _ _ _ _ _ _
      | exact ih2 _ _ _ _ _ _ _ _ _ _
      | exact ih3 _ _ _
      | exact ih4 _ _ _ _
      | exact LeO.none _
      | refine LeO.ite ?_ ?_
      | refine LeO.bind ?_ (fun _ => ?_)
    · intro y0 y1 y2 y3
      unfold porterref22_Rows.l3
      repeat' first
      | (with_reducible exact ih0 _ _ _)
      | (with_reducible exact ih1 _ _ _ _ _ _ _ _ _ _)
      | (with_reducible exact ih2 _ _ _ _ _ _ _ _ _ _)
      | (with_reducible exact ih3 _ _ _)
      | (with_reducible exact ih4 _ _ _ _)
      | (with_reducible exact LeO.refl _)
      | (with_reducible exact LeO.none _)
      | (with_reducible refine LeO.ite ?_ ?_)
      | (with_reducible refine LeO.bind ?_ (fun _ => ?_))
      | exact ih0 _ _ _
      | exact ih1 _ _ _ _ _ _ _ _ _ _
      | exact ih2 _ _ _ _ _ _ _ _ _ _
      | exact ih3 _ _ _
      | exact ih4 _ _ _ _
      | exact LeO.none _
      | refine LeO.ite ?_ ?_
      | refine LeO.bind ?_ (fun _ => ?_)
theorem porterref22_Rows.mono : ∀ a0 k, LeO (porterref22_Rows.f k a0) (porterref22_Rows.f (k + 1) a0) := by
  intro a0 k
  obtain ⟨ih0, ih1, ih2, ih3, ih4⟩ := porterref22_Rows.mono_l k
  unfold porterref22_Rows.f
  repeat' first
      | (with_reducible exact ih0 _ _ _)
      | (with_reducible exact ih1 _ _ _ _ _ _ _ _ _ _)
      | (with_reducible exact ih2 _ _ _ _ _ _ _ _ _ _)
      | (with_reducible exact ih3 _ _ _)
      | (with_reducible exact ih4 _ _ _ _)
      | (with_reducible exact LeO.refl _)
      | (with_reducible exact LeO.none _)
      | (with_reducible refine LeO.ite ?_ ?_)
      | (with_reducible refine LeO.bind ?_ (fun _ => ?_))
      | exact ih0 _ _ _
      | exact ih1 _ _ _ _ _ _ _ _ _ _
      | exact ih2 _ _ _ _ _ _ _ _ _ _
      | exact ih3 _ _ _
      | exact ih4 _ _ _ _
      | exact LeO.none _
      | refine LeO.ite ?_ ?_
      | refine LeO.bind ?_ (fun _ => ?_)
def porterref22_Rows.T10 : Bool × List (List Nat × List Nat) := (true, [([], []), ([], []), ([0, 1], [0, 1]), ([2], [2]), ([3], [3]), ([], []), ([5], [5]), ([4, 6], [4, 6]), ([7], [7]), ([8], [8]), ([8], [8]), ([9, 10, 8], [8, 9, 10]), ([11, 8], [8, 11]), ([12, 8], [8, 12]), ([13, 8], [8, 13]), ([8, 14], [8, 14])])
def porterref22_Rows.B10 : List Nat := [0, 0, 3, 7, 15, 0, 32, 127, 255, 511, 511, 2047, 4095, 8191, 16383, 32767]
theorem porterref22_Rows.tab10 : rtab .any (opsOf Try.f14 10) = porterref22_Rows.T10 := by kernel_rfl
theorem porterref22_Rows.bits10 : waitsOk porterref22_Rows.T10.2 porterref22_Rows.B10 = true := by kernel_rfl
def porterref22_Rows.T21 : Bool × List (List Nat × List Nat) := (true, [([], []), ([0], [0]), ([1], [1]), ([2], [2]), ([2], [2]), ([3, 4, 2], [2, 3, 4]), ([5, 2], [2, 5]), ([2], [2]), ([2], [2]), ([8, 2], [2, 8]), ([7, 9, 2], [2, 7, 9]), ([10, 2], [2, 10]), ([6, 11, 2, 2], [2, 6, 11]), ([2, 12], [2, 12])])
def porterref22_Rows.B21 : List Nat := [0, 1, 3, 7, 7, 31, 63, 7, 7, 263, 903, 1927, 4095, 8191]
theorem porterref22_Rows.tab21 : rtab .any (opsOf Try.f14 21) = porterref22_Rows.T21 := by kernel_rfl
theorem porterref22_Rows.bits21 : waitsOk porterref22_Rows.T21.2 porterref22_Rows.B21 = true := by kernel_rfl
set_option maxHeartbeats 8000000 in
set_option maxRecDepth 100000 in
theorem porterref22_Rows.calls (k : Nat) (A0 : Option Addr) (c0 : Nat) (l0 : List (S65)) (r : List (S51)) (w : World) (hr0 : Kd.C k65 w A0 l0.length l0) (hc0 : l0.length ≤ c0) (h : porterref22_Rows.f k l0 = some r) :
    Calls Try.prog 14 #[.slice A0 l0.length c0] w fun e w' => ∃ v0_ : Value, e = .returned (v0_) ∧ Kd.R k51 51 w' w.heap.size (fun _ => True) v0_ r ∧ Below w.heap.size w w' := by
  have hu65 := Try.underlying65
  have hu25 := Try.underlying25
  have hu51 := Try.underlying51
  have HR0 := Aside0.mk hr0
  have HC0 := Aside0.mk hc0
  clear hr0 hc0
  have HB := Aside0.mk (Below.refl w.heap.size w)
  have H : (porterref22_Rows.l0 k l0 ([] : List (S51)) 0) = some r := h
  clear h
  have H' := Aside0.mk H
  clear H
  go_enter Try.func14, Try.ntmps14
  go_wp2
  go_loopg [3, 4] k (fun kq v3 v4 w' => ∃ (x3_1 : List (S51)) (x4_1 : Int), v4 = .int .i64 x4_1 ∧ Aside0 (porterref22_Rows.l0 kq l0 x3_1 x4_1 = some r) ∧ Aside0 (kq ≤ k) ∧ Aside0 (Kd.R k51 51 w' w.heap.size (fun _ => True) v3 x3_1) ∧ Aside0 (Below w.heap.size w w'))
  case atStart => exact ⟨(([] : List (S51))), (0), (by first | rfl | (simp; done) | (simp [*]; done)), H', ⟨Nat.le_refl _⟩, ⟨by first | exact Kd.R_nil _ _ _ _ _ | exact Kd.N_nil _ _ _ _ _ | exact Kd.V_nil _ _ _ _ _ | exact Kd.Q_nil _ _ _ _ _ | exact Kd.S_nil _ _ _ _ _⟩, ⟨by repeat (first | (with_reducible first | exact HB.out | apply below_alloc | apply pw_below_drewN | apply below_drew1) | exact HB.out)⟩⟩
  case round =>
    clear H'
    try clear c1
    obtain ⟨x3_1, x4_1, rfl, HA, HK1, HO_3, HB⟩ := hrel
    cases gk with
    | zero => exact absurd HA.out (by simp [porterref22_Rows.l0])
    | succ k1 =>
      have H := HA.out
      clear HA
      simp only [porterref22_Rows.l0] at H
      by_cases c2 : x4_1 < (l0.length : Int)
      · rw [if_pos c2] at H
        have c2b0 : decide (x4_1 < (l0.length : Int)) = true := decide_eq_true c2
        clear c2
        by_cases c3 : 0 ≤ x4_1
        · rw [if_pos c3] at H
          have c3b0 : decide (0 ≤ x4_1) = true := decide_eq_true c3
          clear c3
          have H' := Aside0.mk H
          clear H
          have p198 : 0 ≤ (x4_1 : Int) := of_decide_eq_true (by first | (with_reducible assumption) | assumption)
          have q198 : x4_1 < (l0.length : Int) := of_decide_eq_true (by first | (with_reducible assumption) | assumption)
          obtain ⟨ad198, e198, hx198_0, hx198_1, hx198_2, hx198_3, hx198_4⟩ := at_T65 HR0.out x4_1 p198 q198
          cases e198
          replace hx198_0 := (HB.out.cell (World.block_lt_of_cell? w _ hx198_0)).trans hx198_0
          replace hx198_1 := (HB.out.cell (World.block_lt_of_cell? w _ hx198_1)).trans hx198_1
          replace hx198_2 := (HB.out.cell (World.block_lt_of_cell? w _ hx198_2)).trans hx198_2
          replace hx198_3 := (HB.out.cell (World.block_lt_of_cell? w _ hx198_3)).trans hx198_3
          replace hx198_4 := (HB.out.cell (World.block_lt_of_cell? w _ hx198_4)).trans hx198_4
          replace p198 := eq_true p198
          replace q198 := eq_true q198
          go_wp2_with (first | ((with_reducible refine gate_dst (N := 5) rfl ?_); refine box_event ?hg (N := 5) ?hd (cs := #[.int .i64 0, .bool false, .string (⟨#[]⟩ : ByteArray), .string (⟨#[]⟩ : ByteArray), .string (⟨#[]⟩ : ByteArray)]) (t := 65) ?hr ?_; (case hd => rfl); (case hg => rfl); (case hr => first | (go_simp; done) | (go_simp; rfl)); intro gb199 hg w4 hbox hb; have n0_ := Aside0.mk (Kd.R_below (by (with_reducible repeat (first | apply Kd.R_alloc | apply Kd.R_drewN | apply Kd.R_drew)); exact HO_3.out) hb); have n1_ := Aside0.mk (below_step (by repeat (first | (with_reducible first | exact HB.out | apply below_alloc | apply pw_below_drewN | apply below_drew1) | exact HB.out)) hb); have n2_ := Aside0.mk (hbox); have n3_ := Aside0.mk ((by rw [hg]; exact (below_size (by repeat (first | (with_reducible first | exact HB.out | apply below_alloc | apply pw_below_drewN | apply below_drew1) | exact HB.out))) : w.heap.size ≤ gb199)); have n4_ := Aside0.mk ((by rw [hg]; exact (below_size (by repeat (first | (with_reducible first | exact HB.out | apply below_alloc | apply pw_below_drewN | apply below_drew1) | exact HB.out))) : w.heap.size ≤ gb199)); clear HO_3; clear HB; have HO_3 := n0_; have HB := n1_; have BK199 := n2_; have GW199 := n3_; have GE199 := n4_; clear n0_ n1_ n2_ n3_ n4_; clear hb hbox hg; have hcz5_0 : w4.cell? ⟨gb199, 0, none⟩ = some (.int .i64 0) := (blk_cell BK199.out 0).trans rfl; have hcz5_1 : w4.cell? ⟨gb199, 1, none⟩ = some (.bool false) := (blk_cell BK199.out 1).trans rfl; have hcz5_2 : w4.cell? ⟨gb199, 2, none⟩ = some (.string (⟨#[]⟩ : ByteArray)) := (blk_cell BK199.out 2).trans rfl; have hcz5_3 : w4.cell? ⟨gb199, 3, none⟩ = some (.string (⟨#[]⟩ : ByteArray)) := (blk_cell BK199.out 3).trans rfl; have hcz5_4 : w4.cell? ⟨gb199, 4, none⟩ = some (.string (⟨#[]⟩ : ByteArray)) := (blk_cell BK199.out 4).trans rfl; have hfz5_0 := blk_frozen BK199.out 0; have hfz5_1 := blk_frozen BK199.out 1; have hfz5_2 := blk_frozen BK199.out 2; have hfz5_3 := blk_frozen BK199.out 3; have hfz5_4 := blk_frozen BK199.out 4))
          go_loopg [6, 7] k1 (fun kq v6 v7 w' => ∃ (x6_2 : Int) (x7_2 : Int), v6 = .int .i64 x6_2 ∧ v7 = .int .i64 x7_2 ∧ Aside0 (porterref22_Rows.l1 kq l0 x3_1 x4_1 x6_2 x7_2 ((rd_T65 l0 x4_1).f0) ((rd_T65 l0 x4_1).f1) ((rd_T65 l0 x4_1).f2.f0) ((rd_T65 l0 x4_1).f2.f1) ((rd_T65 l0 x4_1).f2.f2) = some r) ∧ Aside0 (kq ≤ k1) ∧ Aside0 (Kd.R k51 51 w' w.heap.size (fun _ => True) u3 x3_1) ∧ Aside0 (w'.heap[gb199]? = some (.cells #[.int .i64 ((rd_T65 l0 x4_1).f0), .bool ((rd_T65 l0 x4_1).f1), .string ((rd_T65 l0 x4_1).f2.f0), .string ((rd_T65 l0 x4_1).f2.f1), .string ((rd_T65 l0 x4_1).f2.f2)] 65 (0, 0))) ∧ Aside0 (Below w.heap.size w w'))
          case atStart => exact ⟨((-1)), (0), (by first | rfl | (simp; done) | (simp [*]; done)), (by first | rfl | (simp; done) | (simp [*]; done)), H', ⟨Nat.le_refl _⟩, ⟨by (with_reducible repeat (first | apply Kd.R_alloc | apply Kd.R_drewN | apply Kd.R_drew)); exact Kd.R_mono (Kd.R_far (p := ⟨gb199, 4, none⟩) (Kd.R_far (p := ⟨gb199, 3, none⟩) (Kd.R_far (p := ⟨gb199, 2, none⟩) (Kd.R_far (p := ⟨gb199, 1, none⟩) (Kd.R_far (p := ⟨gb199, 0, none⟩) (Kd.R_types HO_3.out BK199.out (by decide)) (fun _ hk => hk.2) (.int .i64 ((rd_T65 l0 x4_1).f0))) (fun _ hk => hk.2) (.bool ((rd_T65 l0 x4_1).f1))) (fun _ hk => hk.2) (.string ((rd_T65 l0 x4_1).f2.f0))) (fun _ hk => hk.2) (.string ((rd_T65 l0 x4_1).f2.f1))) (fun _ hk => hk.2) (.string ((rd_T65 l0 x4_1).f2.f2))) (fun _ hk => trivial)⟩, ⟨by (with_reducible repeat (first | refine blk_drewN ?_ _ | refine blk_drew ?_ | refine blk_alloc ?_ _)); refine blk_put (cs := #[.int .i64 ((rd_T65 l0 x4_1).f0), .bool ((rd_T65 l0 x4_1).f1), .string ((rd_T65 l0 x4_1).f2.f0), .string ((rd_T65 l0 x4_1).f2.f1), .string (⟨#[]⟩ : ByteArray)]) ?_ 4 _ rfl; (with_reducible repeat (first | refine blk_drewN ?_ _ | refine blk_drew ?_ | refine blk_alloc ?_ _)); refine blk_put (cs := #[.int .i64 ((rd_T65 l0 x4_1).f0), .bool ((rd_T65 l0 x4_1).f1), .string ((rd_T65 l0 x4_1).f2.f0), .string (⟨#[]⟩ : ByteArray), .string (⟨#[]⟩ : ByteArray)]) ?_ 3 _ rfl; (with_reducible repeat (first | refine blk_drewN ?_ _ | refine blk_drew ?_ | refine blk_alloc ?_ _)); refine blk_put (cs := #[.int .i64 ((rd_T65 l0 x4_1).f0), .bool ((rd_T65 l0 x4_1).f1), .string (⟨#[]⟩ : ByteArray), .string (⟨#[]⟩ : ByteArray), .string (⟨#[]⟩ : ByteArray)]) ?_ 2 _ rfl; (with_reducible repeat (first | refine blk_drewN ?_ _ | refine blk_drew ?_ | refine blk_alloc ?_ _)); refine blk_put (cs := #[.int .i64 ((rd_T65 l0 x4_1).f0), .bool false, .string (⟨#[]⟩ : ByteArray), .string (⟨#[]⟩ : ByteArray), .string (⟨#[]⟩ : ByteArray)]) ?_ 1 _ rfl; (with_reducible repeat (first | refine blk_drewN ?_ _ | refine blk_drew ?_ | refine blk_alloc ?_ _)); refine blk_put (cs := #[.int .i64 0, .bool false, .string (⟨#[]⟩ : ByteArray), .string (⟨#[]⟩ : ByteArray), .string (⟨#[]⟩ : ByteArray)]) ?_ 0 _ rfl; (with_reducible repeat (first | refine blk_drewN ?_ _ | refine blk_drew ?_ | refine blk_alloc ?_ _)); exact BK199.out⟩, ⟨by repeat (first | (with_reducible first | exact HB.out | apply below_alloc | apply pw_below_drewN | apply below_drew1 | refine below_set ?_ GE199.out) | exact HB.out)⟩⟩
          case round =>
            clear H'
            try clear c1
            try clear p1
            try clear q1
            try clear hx1
            try clear c2
            try clear c2b0
            try clear p2
            try clear c3
            try clear c3b0
            try clear hcz5_0
            try clear hcz5_1
            try clear hcz5_2
            try clear hcz5_3
            try clear hcz5_4
            try clear hfz5_0
            try clear hfz5_1
            try clear hfz5_2
            try clear hfz5_3
            try clear hfz5_4
            try clear hx198_0
            try clear hx198_1
            try clear hx198_2
            try clear hx198_3
            try clear hx198_4
            try clear p198
            try clear q198
            obtain ⟨x6_2, x7_2, rfl, rfl, HA, HK2, HO_3, BK199, HB⟩ := hrel
            cases gk with
            | zero => exact absurd HA.out (by simp [porterref22_Rows.l1])
            | succ k2 =>
              have H := HA.out
              clear HA
              simp only [porterref22_Rows.l1] at H
              by_cases c6 : x7_2 < (x3_1.length : Int)
              · rw [if_pos c6] at H
                have c6b0 : decide (x7_2 < (x3_1.length : Int)) = true := decide_eq_true c6
                clear c6
                by_cases c7 : 0 ≤ x7_2
                · rw [if_pos c7] at H
                  have c7b0 : decide (0 ≤ x7_2) = true := decide_eq_true c7
                  clear c7
                  by_cases c8 : ((((rd_T51 x3_1 x7_2).f0.f0).toList) == ((rd_T65 l0 x4_1).f2.f0).toList && ((((rd_T51 x3_1 x7_2).f0.f1).toList) == ((rd_T65 l0 x4_1).f2.f1).toList && ((((rd_T51 x3_1 x7_2).f0.f2).toList) == ((rd_T65 l0 x4_1).f2.f2).toList))) = true
                  · rw [if_pos c8] at H
                    have c8b0 : ((((rd_T51 x3_1 x7_2).f0.f0).toList) == ((rd_T65 l0 x4_1).f2.f0).toList && ((((rd_T51 x3_1 x7_2).f0.f1).toList) == ((rd_T65 l0 x4_1).f2.f1).toList && ((((rd_T51 x3_1 x7_2).f0.f2).toList) == ((rd_T65 l0 x4_1).f2.f2).toList))) = true := c8
                    (try (have c8b1 : decide ((((rd_T51 x3_1 x7_2).f0.f0).toList) = ((rd_T65 l0 x4_1).f2.f0).toList && ((((rd_T51 x3_1 x7_2).f0.f1).toList) == ((rd_T65 l0 x4_1).f2.f1).toList && ((((rd_T51 x3_1 x7_2).f0.f2).toList) == ((rd_T65 l0 x4_1).f2.f2).toList))) = true := by simpa using c8))
                    (try (have c8b2 : ((((rd_T51 x3_1 x7_2).f0.f0).toList) == ((rd_T65 l0 x4_1).f2.f0).toList && ((((rd_T51 x3_1 x7_2).f0.f1).toList) == ((rd_T65 l0 x4_1).f2.f1).toList && ((((rd_T51 x3_1 x7_2).f0.f2).toList) == ((rd_T65 l0 x4_1).f2.f2).toList))) = true := by simpa using c8))
                    clear c8
                    by_cases c9 : ((rd_T51 x3_1 x7_2).f2) = 0
                    · rw [if_pos c9] at H
                      have c9b0 : (((rd_T51 x3_1 x7_2).f2) == 0) = true := beq_iff_eq.mpr c9
                      have c9b1 : (((rd_T51 x3_1 x7_2).f2) != 0) = false := bne_eq_false_iff_eq.mpr c9
                      clear c9
                      have H' := Aside0.mk H
                      clear H
                      obtain ⟨Ao10, co10, eo10⟩ := Kd.R_slice HO_3.out
                      subst eo10
                      try go_wp2
                      have n0_ := Aside0.mk (Kd.R_drew HO_3.out)
                      have n1_ := Aside0.mk (blk_drew BK199.out)
                      have n2_ := Aside0.mk (below_drew1 HB.out)
                      clear HO_3
                      clear BK199
                      clear HB
                      have HO_3 := n0_
                      have BK199 := n1_
                      have HB := n2_
                      clear n0_ n1_ n2_
                      have p200 : 0 ≤ (x7_2 : Int) := of_decide_eq_true (by first | (with_reducible assumption) | assumption)
                      have q200 : x7_2 < (x3_1.length : Int) := of_decide_eq_true (by first | (with_reducible assumption) | assumption)
                      obtain ⟨ad200, e200, hx200_0, hx200_1, hx200_2, hx200_3, hx200_4⟩ := at_T51 (Kd.R_reads' HO_3.out).2.2 x7_2 p200 q200
                      cases e200
                      replace p200 := eq_true p200
                      replace q200 := eq_true q200
                      have p201 : 0 ≤ (x7_2 : Int) := of_decide_eq_true (by first | (with_reducible assumption) | assumption)
                      have q201 : x7_2 < (x3_1.length : Int) := of_decide_eq_true (by first | (with_reducible assumption) | assumption)
                      obtain ⟨ad201, e201, hx201_0, hx201_1, hx201_2, hx201_3, hx201_4⟩ := at_T51 (Kd.R_reads' HO_3.out).2.2 x7_2 p201 q201
                      obtain rfl : ad200 = ad201 := (by injection e201)
                      replace p201 := eq_true p201
                      replace q201 := eq_true q201
                      refine start_ (n := 16) (S := fun w' => w'.cell? ⟨gb199, 0, none⟩ = some (.int .i64 ((rd_T65 l0 x4_1).f0)) ∧ w'.cell? ⟨gb199, 1, none⟩ = some (.bool ((rd_T65 l0 x4_1).f1)) ∧ w'.cell? ⟨gb199, 2, none⟩ = some (.string ((rd_T65 l0 x4_1).f2.f0)) ∧ w'.cell? ⟨gb199, 3, none⟩ = some (.string ((rd_T65 l0 x4_1).f2.f1)) ∧ w'.cell? ⟨gb199, 4, none⟩ = some (.string ((rd_T65 l0 x4_1).f2.f2)) ∧ w'.cell? (ad200.add ((x7_2).toNat * 5)) = some (.string ((rd_T51 x3_1 x7_2).f0.f0)) ∧ w'.cell? ⟨(ad200.add ((x7_2).toNat * 5)).block, (ad200.add ((x7_2).toNat * 5)).off + 1, none⟩ = some (.string ((rd_T51 x3_1 x7_2).f0.f1)) ∧ w'.cell? ⟨(ad200.add ((x7_2).toNat * 5)).block, (ad200.add ((x7_2).toNat * 5)).off + 2, none⟩ = some (.string ((rd_T51 x3_1 x7_2).f0.f2)) ∧ w'.cell? ⟨(ad200.add ((x7_2).toNat * 5)).block, (ad200.add ((x7_2).toNat * 5)).off + 3, none⟩ = some (.int .i64 ((rd_T51 x3_1 x7_2).f1)) ∧ w'.cell? ⟨(ad200.add ((x7_2).toNat * 5)).block, (ad200.add ((x7_2).toNat * 5)).off + 4, none⟩ = some (.int .i64 ((rd_T51 x3_1 x7_2).f2)) ∧ w'.cell? (ad200.add ((x7_2).toNat * 5)) = some (.string ((rd_T51 x3_1 x7_2).f0.f0)) ∧ w'.cell? ⟨(ad200.add ((x7_2).toNat * 5)).block, (ad200.add ((x7_2).toNat * 5)).off + 1, none⟩ = some (.string ((rd_T51 x3_1 x7_2).f0.f1)) ∧ w'.cell? ⟨(ad200.add ((x7_2).toNat * 5)).block, (ad200.add ((x7_2).toNat * 5)).off + 2, none⟩ = some (.string ((rd_T51 x3_1 x7_2).f0.f2)) ∧ w'.cell? ⟨(ad200.add ((x7_2).toNat * 5)).block, (ad200.add ((x7_2).toNat * 5)).off + 3, none⟩ = some (.int .i64 ((rd_T51 x3_1 x7_2).f1)) ∧ w'.cell? ⟨(ad200.add ((x7_2).toNat * 5)).block, (ad200.add ((x7_2).toNat * 5)).off + 4, none⟩ = some (.int .i64 ((rd_T51 x3_1 x7_2).f2))) (ds := []) #[false, false, false, false, false, false, false, false, false, false, false, false, false, false, false, false] (by kernel_rfl) rfl rfl ⟨(blk_cell BK199.out 0).trans rfl, (blk_cell BK199.out 1).trans rfl, (blk_cell BK199.out 2).trans rfl, (blk_cell BK199.out 3).trans rfl, (blk_cell BK199.out 4).trans rfl, hx200_0, hx200_1, hx200_2, hx200_3, hx200_4, hx201_0, hx201_1, hx201_2, hx201_3, hx201_4⟩ (fun hHeld => ?_); refine with_tabW porterref22_Rows.tab10 porterref22_Rows.bits10 (fun HT_ HW_ => ?_)
                      generalize wr.drew = w11 at HO_3 BK199 HB hx200_0 hx200_1 hx200_2 hx200_3 hx200_4 hx201_0 hx201_1 hx201_2 hx201_3 hx201_4 hHeld ⊢
                      refine pure_ (i := 0) (N := some 28) (v := ?_) (a' := ?_) #[true, false, false, false, false, false, false, false, false, false, false, false, false, false, false, false] rfl rfl (any_of HT_.out (by kernel_rfl)) (fun _ _ _ h => h) (Or.inl ⟨by rfl, ?_⟩) ?_ ?_
                      rotate_left
                      · intro w'
                        go_simp
                        with_reducible rfl
                      rotate_left
                      · simp only [Act.put, List.setIfInBounds_toArray, List.set_cons_zero, List.set_cons_succ, i64_w, i32_w]
                        rfl
                      refine pure_ (i := 1) (N := some 29) (v := ?_) (a' := ?_) #[true, true, false, false, false, false, false, false, false, false, false, false, false, false, false, false] rfl rfl (any_of HT_.out (by kernel_rfl)) (fun _ _ _ h => h) (Or.inl ⟨by rfl, ?_⟩) ?_ ?_
                      rotate_left
                      · intro w'
                        go_simp
                        with_reducible rfl
                      rotate_left
                      · simp only [Act.put, List.setIfInBounds_toArray, List.set_cons_zero, List.set_cons_succ, i64_w, i32_w]
                        rfl
                      refine pure_ (i := 2) (N := some 30) (v := ?_) (a' := ?_) #[true, true, true, false, false, false, false, false, false, false, false, false, false, false, false, false] rfl rfl (any_of HT_.out (by kernel_rfl)) (fun _ _ _ h => h) (Or.inl ⟨by rfl, ?_⟩) ?_ ?_
                      rotate_left
                      · intro w'
                        go_simp
                        with_reducible rfl
                      rotate_left
                      · simp only [Act.put, List.setIfInBounds_toArray, List.set_cons_zero, List.set_cons_succ, i64_w, i32_w]
                        rfl
                      refine pure_ (i := 3) (N := some 31) (v := ?_) (a' := ?_) #[true, true, true, true, false, false, false, false, false, false, false, false, false, false, false, false] rfl rfl (any_of HT_.out (by kernel_rfl)) (fun _ _ _ h => h) (Or.inl ⟨by rfl, ?_⟩) ?_ ?_
                      rotate_left
                      · intro w'
                        go_simp
                        with_reducible rfl
                      rotate_left
                      · simp only [Act.put, List.setIfInBounds_toArray, List.set_cons_zero, List.set_cons_succ, i64_w, i32_w]
                        rfl
                      refine pure_ (i := 5) (N := some 33) (v := ?_) (a' := ?_) #[true, true, true, true, false, true, false, false, false, false, false, false, false, false, false, false] rfl rfl (any_of HT_.out (by kernel_rfl)) (fun _ _ _ h => h) (Or.inl ⟨by rfl, ?_⟩) ?_ ?_
                      rotate_left
                      · intro w'
                        go_simp
                        with_reducible rfl
                      rotate_left
                      · simp only [Act.put, List.setIfInBounds_toArray, List.set_cons_zero, List.set_cons_succ, i64_w, i32_w]
                        rfl
                      refine take_ (i := 4) (N := some 32) (v := ?_) (a' := ?_) #[true, true, true, true, true, true, false, false, false, false, false, false, false, false, false, false] rfl rfl (take_ofW HT_.out HW_.out (by kernel_rfl)) (fun _ _ _ h => h) (Or.inl ⟨by rfl, ?_⟩) hHeld ?_ ?_
                      rotate_left
                      · rintro w' ⟨s0, s1, s2, s3, s4, s5, s6, s7, s8, s9, s10, s11, s12, s13, s14⟩
                        go_simp
                        with_reducible rfl
                      rotate_left
                      · simp only [Act.put, List.setIfInBounds_toArray, List.set_cons_zero, List.set_cons_succ, i64_w, i32_w]
                        rfl
                      refine take_ (i := 6) (N := some 34) (v := ?_) (a' := ?_) #[true, true, true, true, true, true, true, false, false, false, false, false, false, false, false, false] rfl rfl (take_ofW HT_.out HW_.out (by kernel_rfl)) (fun _ _ _ h => h) (Or.inl ⟨by rfl, ?_⟩) hHeld ?_ ?_
                      rotate_left
                      · rintro w' ⟨s0, s1, s2, s3, s4, s5, s6, s7, s8, s9, s10, s11, s12, s13, s14⟩
                        go_simp
                        with_reducible rfl
                      rotate_left
                      · simp only [Act.put, List.setIfInBounds_toArray, List.set_cons_zero, List.set_cons_succ, i64_w, i32_w]
                        rfl
                      refine pure_ (i := 7) (N := some 35) (v := ?_) (a' := ?_) #[true, true, true, true, true, true, true, true, false, false, false, false, false, false, false, false] rfl rfl (any_of HT_.out (by kernel_rfl)) (fun _ _ _ h => h) (Or.inl ⟨by rfl, ?_⟩) ?_ ?_
                      rotate_left
                      · intro w'
                        go_simp
                        with_reducible rfl
                      rotate_left
                      · simp only [Act.put, List.setIfInBounds_toArray, List.set_cons_zero, List.set_cons_succ, i64_w, i32_w]
                        rfl
                      refine pure_ (i := 8) (N := some 36) (v := ?_) (a' := ?_) #[true, true, true, true, true, true, true, true, true, false, false, false, false, false, false, false] rfl rfl (any_of HT_.out (by kernel_rfl)) (fun _ _ _ h => h) (Or.inl ⟨by rfl, ?_⟩) ?_ ?_
                      rotate_left
                      · intro w'
                        go_simp
                        with_reducible rfl
                      rotate_left
                      · simp only [Act.put, List.setIfInBounds_toArray, List.set_cons_zero, List.set_cons_succ, i64_w, i32_w]
                        rfl
                      refine pure_ (i := 9) (N := some 37) (v := ?_) (a' := ?_) #[true, true, true, true, true, true, true, true, true, true, false, false, false, false, false, false] rfl rfl (any_of HT_.out (by kernel_rfl)) (fun _ _ _ h => h) (Or.inl ⟨by rfl, ?_⟩) ?_ ?_
                      rotate_left
                      · intro w'
                        go_simp
                        with_reducible rfl
                      rotate_left
                      · simp only [Act.put, List.setIfInBounds_toArray, List.set_cons_zero, List.set_cons_succ, i64_w, i32_w]
                        rfl
                      refine pure_ (i := 10) (N := some 38) (v := ?_) (a' := ?_) #[true, true, true, true, true, true, true, true, true, true, true, false, false, false, false, false] rfl rfl (any_of HT_.out (by kernel_rfl)) (fun _ _ _ h => h) (Or.inl ⟨by rfl, ?_⟩) ?_ ?_
                      rotate_left
                      · intro w'
                        go_simp
                        with_reducible rfl
                      rotate_left
                      · simp only [Act.put, List.setIfInBounds_toArray, List.set_cons_zero, List.set_cons_succ, i64_w, i32_w]
                        rfl
                      refine pure_ (i := 11) (N := some 39) (v := ?_) (a' := ?_) #[true, true, true, true, true, true, true, true, true, true, true, true, false, false, false, false] rfl rfl (any_of HT_.out (by kernel_rfl)) (fun _ _ _ h => h) (Or.inl ⟨by rfl, ?_⟩) ?_ ?_
                      rotate_left
                      · intro w'
                        go_simp
                        with_reducible rfl
                      rotate_left
                      · simp only [Act.put, List.setIfInBounds_toArray, List.set_cons_zero, List.set_cons_succ, i64_w, i32_w]
                        rfl
                      refine pure_ (i := 12) (N := some 40) (v := ?_) (a' := ?_) #[true, true, true, true, true, true, true, true, true, true, true, true, true, false, false, false] rfl rfl (any_of HT_.out (by kernel_rfl)) (fun _ _ _ h => h) (Or.inl ⟨by rfl, ?_⟩) ?_ ?_
                      rotate_left
                      · intro w'
                        go_simp
                        with_reducible rfl
                      rotate_left
                      · simp only [Act.put, List.setIfInBounds_toArray, List.set_cons_zero, List.set_cons_succ, i64_w, i32_w]
                        rfl
                      refine take_ (i := 13) (N := some 41) (v := ?_) (a' := ?_) #[true, true, true, true, true, true, true, true, true, true, true, true, true, true, false, false] rfl rfl (take_ofW HT_.out HW_.out (by kernel_rfl)) (fun _ _ _ h => h) (Or.inl ⟨by rfl, ?_⟩) hHeld ?_ ?_
                      rotate_left
                      · rintro w' ⟨s0, s1, s2, s3, s4, s5, s6, s7, s8, s9, s10, s11, s12, s13, s14⟩
                        go_simp
                        with_reducible rfl
                      rotate_left
                      · simp only [Act.put, List.setIfInBounds_toArray, List.set_cons_zero, List.set_cons_succ, i64_w, i32_w]
                        rfl
                      refine pure_ (i := 14) (N := some 42) (v := ?_) (a' := ?_) #[true, true, true, true, true, true, true, true, true, true, true, true, true, true, true, false] rfl rfl (any_of HT_.out (by kernel_rfl)) (fun _ _ _ h => h) (Or.inl ⟨by rfl, ?_⟩) ?_ ?_
                      rotate_left
                      · intro w'
                        go_simp
                        with_reducible rfl
                      rotate_left
                      · simp only [Act.put, List.setIfInBounds_toArray, List.set_cons_zero, List.set_cons_succ, i64_w, i32_w]
                        rfl
                      refine pure_ (i := 15) (N := some 43) (v := ?_) (a' := ?_) #[true, true, true, true, true, true, true, true, true, true, true, true, true, true, true, true] rfl rfl (any_of HT_.out (by kernel_rfl)) (fun _ _ _ h => h) (Or.inl ⟨by rfl, ?_⟩) ?_ ?_
                      rotate_left
                      · intro w'
                        go_simp
                        with_reducible rfl
                      rotate_left
                      · simp only [Act.put, List.setIfInBounds_toArray, List.set_cons_zero, List.set_cons_succ, i64_w, i32_w]
                        rfl
                      refine done_ (done_of HT_.out (by kernel_rfl)) ?_
                      try go_wp2
                      go_roundg k2
                      case measure => have := HK1.out; have := HK2.out; omega
                      case rel => exact ⟨(x7_2), (wrap64 (x7_2 + 1)), (by first | rfl | (simp; done) | (simp [*]; done)), (by first | rfl | (simp; done) | (simp [*]; done)), H', ⟨by have := HK1.out; have := HK2.out; omega⟩, ⟨by (with_reducible repeat (first | apply Kd.R_alloc | apply Kd.R_drewN | apply Kd.R_drew)); exact HO_3.out⟩, ⟨by (with_reducible repeat (first | refine blk_drewN ?_ _ | refine blk_drew ?_ | refine blk_alloc ?_ _)); exact BK199.out⟩, ⟨by repeat (first | (with_reducible first | exact HB.out | apply below_alloc | apply pw_below_drewN | apply below_drew1 | refine below_set ?_ GE199.out) | exact HB.out)⟩⟩
                    · rw [if_neg c9] at H
                      have c9b0 : (((rd_T51 x3_1 x7_2).f2) == 0) = false := beq_eq_false_iff_ne.mpr c9
                      have c9b1 : (((rd_T51 x3_1 x7_2).f2) != 0) = true := bne_iff_ne.mpr c9
                      have H' := Aside0.mk H
                      clear H
                      obtain ⟨Ao12, co12, eo12⟩ := Kd.R_slice HO_3.out
                      subst eo12
                      try go_wp2
                      have n0_ := Aside0.mk (Kd.R_drew HO_3.out)
                      have n1_ := Aside0.mk (blk_drew BK199.out)
                      have n2_ := Aside0.mk (below_drew1 HB.out)
                      clear HO_3
                      clear BK199
                      clear HB
                      have HO_3 := n0_
                      have BK199 := n1_
                      have HB := n2_
                      clear n0_ n1_ n2_
                      have p200 : 0 ≤ (x7_2 : Int) := of_decide_eq_true (by first | (with_reducible assumption) | assumption)
                      have q200 : x7_2 < (x3_1.length : Int) := of_decide_eq_true (by first | (with_reducible assumption) | assumption)
                      obtain ⟨ad200, e200, hx200_0, hx200_1, hx200_2, hx200_3, hx200_4⟩ := at_T51 (Kd.R_reads' HO_3.out).2.2 x7_2 p200 q200
                      cases e200
                      replace p200 := eq_true p200
                      replace q200 := eq_true q200
                      have p201 : 0 ≤ (x7_2 : Int) := of_decide_eq_true (by first | (with_reducible assumption) | assumption)
                      have q201 : x7_2 < (x3_1.length : Int) := of_decide_eq_true (by first | (with_reducible assumption) | assumption)
                      obtain ⟨ad201, e201, hx201_0, hx201_1, hx201_2, hx201_3, hx201_4⟩ := at_T51 (Kd.R_reads' HO_3.out).2.2 x7_2 p201 q201
                      obtain rfl : ad200 = ad201 := (by injection e201)
                      replace p201 := eq_true p201
                      replace q201 := eq_true q201
                      refine start_ (n := 16) (S := fun w' => w'.cell? ⟨gb199, 0, none⟩ = some (.int .i64 ((rd_T65 l0 x4_1).f0)) ∧ w'.cell? ⟨gb199, 1, none⟩ = some (.bool ((rd_T65 l0 x4_1).f1)) ∧ w'.cell? ⟨gb199, 2, none⟩ = some (.string ((rd_T65 l0 x4_1).f2.f0)) ∧ w'.cell? ⟨gb199, 3, none⟩ = some (.string ((rd_T65 l0 x4_1).f2.f1)) ∧ w'.cell? ⟨gb199, 4, none⟩ = some (.string ((rd_T65 l0 x4_1).f2.f2)) ∧ w'.cell? (ad200.add ((x7_2).toNat * 5)) = some (.string ((rd_T51 x3_1 x7_2).f0.f0)) ∧ w'.cell? ⟨(ad200.add ((x7_2).toNat * 5)).block, (ad200.add ((x7_2).toNat * 5)).off + 1, none⟩ = some (.string ((rd_T51 x3_1 x7_2).f0.f1)) ∧ w'.cell? ⟨(ad200.add ((x7_2).toNat * 5)).block, (ad200.add ((x7_2).toNat * 5)).off + 2, none⟩ = some (.string ((rd_T51 x3_1 x7_2).f0.f2)) ∧ w'.cell? ⟨(ad200.add ((x7_2).toNat * 5)).block, (ad200.add ((x7_2).toNat * 5)).off + 3, none⟩ = some (.int .i64 ((rd_T51 x3_1 x7_2).f1)) ∧ w'.cell? ⟨(ad200.add ((x7_2).toNat * 5)).block, (ad200.add ((x7_2).toNat * 5)).off + 4, none⟩ = some (.int .i64 ((rd_T51 x3_1 x7_2).f2)) ∧ w'.cell? (ad200.add ((x7_2).toNat * 5)) = some (.string ((rd_T51 x3_1 x7_2).f0.f0)) ∧ w'.cell? ⟨(ad200.add ((x7_2).toNat * 5)).block, (ad200.add ((x7_2).toNat * 5)).off + 1, none⟩ = some (.string ((rd_T51 x3_1 x7_2).f0.f1)) ∧ w'.cell? ⟨(ad200.add ((x7_2).toNat * 5)).block, (ad200.add ((x7_2).toNat * 5)).off + 2, none⟩ = some (.string ((rd_T51 x3_1 x7_2).f0.f2)) ∧ w'.cell? ⟨(ad200.add ((x7_2).toNat * 5)).block, (ad200.add ((x7_2).toNat * 5)).off + 3, none⟩ = some (.int .i64 ((rd_T51 x3_1 x7_2).f1)) ∧ w'.cell? ⟨(ad200.add ((x7_2).toNat * 5)).block, (ad200.add ((x7_2).toNat * 5)).off + 4, none⟩ = some (.int .i64 ((rd_T51 x3_1 x7_2).f2))) (ds := []) #[false, false, false, false, false, false, false, false, false, false, false, false, false, false, false, false] (by kernel_rfl) rfl rfl ⟨(blk_cell BK199.out 0).trans rfl, (blk_cell BK199.out 1).trans rfl, (blk_cell BK199.out 2).trans rfl, (blk_cell BK199.out 3).trans rfl, (blk_cell BK199.out 4).trans rfl, hx200_0, hx200_1, hx200_2, hx200_3, hx200_4, hx201_0, hx201_1, hx201_2, hx201_3, hx201_4⟩ (fun hHeld => ?_); refine with_tabW porterref22_Rows.tab10 porterref22_Rows.bits10 (fun HT_ HW_ => ?_)
                      generalize wr.drew = w13 at HO_3 BK199 HB hx200_0 hx200_1 hx200_2 hx200_3 hx200_4 hx201_0 hx201_1 hx201_2 hx201_3 hx201_4 hHeld ⊢
                      refine pure_ (i := 0) (N := some 28) (v := ?_) (a' := ?_) #[true, false, false, false, false, false, false, false, false, false, false, false, false, false, false, false] rfl rfl (any_of HT_.out (by kernel_rfl)) (fun _ _ _ h => h) (Or.inl ⟨by rfl, ?_⟩) ?_ ?_
                      rotate_left
                      · intro w'
                        go_simp
                        with_reducible rfl
                      rotate_left
                      · simp only [Act.put, List.setIfInBounds_toArray, List.set_cons_zero, List.set_cons_succ, i64_w, i32_w]
                        rfl
                      refine pure_ (i := 1) (N := some 29) (v := ?_) (a' := ?_) #[true, true, false, false, false, false, false, false, false, false, false, false, false, false, false, false] rfl rfl (any_of HT_.out (by kernel_rfl)) (fun _ _ _ h => h) (Or.inl ⟨by rfl, ?_⟩) ?_ ?_
                      rotate_left
                      · intro w'
                        go_simp
                        with_reducible rfl
                      rotate_left
                      · simp only [Act.put, List.setIfInBounds_toArray, List.set_cons_zero, List.set_cons_succ, i64_w, i32_w]
                        rfl
                      refine pure_ (i := 2) (N := some 30) (v := ?_) (a' := ?_) #[true, true, true, false, false, false, false, false, false, false, false, false, false, false, false, false] rfl rfl (any_of HT_.out (by kernel_rfl)) (fun _ _ _ h => h) (Or.inl ⟨by rfl, ?_⟩) ?_ ?_
                      rotate_left
                      · intro w'
                        go_simp
                        with_reducible rfl
                      rotate_left
                      · simp only [Act.put, List.setIfInBounds_toArray, List.set_cons_zero, List.set_cons_succ, i64_w, i32_w]
                        rfl
                      refine pure_ (i := 3) (N := some 31) (v := ?_) (a' := ?_) #[true, true, true, true, false, false, false, false, false, false, false, false, false, false, false, false] rfl rfl (any_of HT_.out (by kernel_rfl)) (fun _ _ _ h => h) (Or.inl ⟨by rfl, ?_⟩) ?_ ?_
                      rotate_left
                      · intro w'
                        go_simp
                        with_reducible rfl
                      rotate_left
                      · simp only [Act.put, List.setIfInBounds_toArray, List.set_cons_zero, List.set_cons_succ, i64_w, i32_w]
                        rfl
                      refine pure_ (i := 5) (N := some 33) (v := ?_) (a' := ?_) #[true, true, true, true, false, true, false, false, false, false, false, false, false, false, false, false] rfl rfl (any_of HT_.out (by kernel_rfl)) (fun _ _ _ h => h) (Or.inl ⟨by rfl, ?_⟩) ?_ ?_
                      rotate_left
                      · intro w'
                        go_simp
                        with_reducible rfl
                      rotate_left
                      · simp only [Act.put, List.setIfInBounds_toArray, List.set_cons_zero, List.set_cons_succ, i64_w, i32_w]
                        rfl
                      refine take_ (i := 4) (N := some 32) (v := ?_) (a' := ?_) #[true, true, true, true, true, true, false, false, false, false, false, false, false, false, false, false] rfl rfl (take_ofW HT_.out HW_.out (by kernel_rfl)) (fun _ _ _ h => h) (Or.inl ⟨by rfl, ?_⟩) hHeld ?_ ?_
                      rotate_left
                      · rintro w' ⟨s0, s1, s2, s3, s4, s5, s6, s7, s8, s9, s10, s11, s12, s13, s14⟩
                        go_simp
                        with_reducible rfl
                      rotate_left
                      · simp only [Act.put, List.setIfInBounds_toArray, List.set_cons_zero, List.set_cons_succ, i64_w, i32_w]
                        rfl
                      refine take_ (i := 6) (N := some 34) (v := ?_) (a' := ?_) #[true, true, true, true, true, true, true, false, false, false, false, false, false, false, false, false] rfl rfl (take_ofW HT_.out HW_.out (by kernel_rfl)) (fun _ _ _ h => h) (Or.inl ⟨by rfl, ?_⟩) hHeld ?_ ?_
                      rotate_left
                      · rintro w' ⟨s0, s1, s2, s3, s4, s5, s6, s7, s8, s9, s10, s11, s12, s13, s14⟩
                        go_simp
                        with_reducible rfl
                      rotate_left
                      · simp only [Act.put, List.setIfInBounds_toArray, List.set_cons_zero, List.set_cons_succ, i64_w, i32_w]
                        rfl
                      refine pure_ (i := 7) (N := some 35) (v := ?_) (a' := ?_) #[true, true, true, true, true, true, true, true, false, false, false, false, false, false, false, false] rfl rfl (any_of HT_.out (by kernel_rfl)) (fun _ _ _ h => h) (Or.inl ⟨by rfl, ?_⟩) ?_ ?_
                      rotate_left
                      · intro w'
                        go_simp
                        with_reducible rfl
                      rotate_left
                      · simp only [Act.put, List.setIfInBounds_toArray, List.set_cons_zero, List.set_cons_succ, i64_w, i32_w]
                        rfl
                      refine pure_ (i := 8) (N := some 36) (v := ?_) (a' := ?_) #[true, true, true, true, true, true, true, true, true, false, false, false, false, false, false, false] rfl rfl (any_of HT_.out (by kernel_rfl)) (fun _ _ _ h => h) (Or.inl ⟨by rfl, ?_⟩) ?_ ?_
                      rotate_left
                      · intro w'
                        go_simp
                        with_reducible rfl
                      rotate_left
                      · simp only [Act.put, List.setIfInBounds_toArray, List.set_cons_zero, List.set_cons_succ, i64_w, i32_w]
                        rfl
                      refine pure_ (i := 9) (N := some 37) (v := ?_) (a' := ?_) #[true, true, true, true, true, true, true, true, true, true, false, false, false, false, false, false] rfl rfl (any_of HT_.out (by kernel_rfl)) (fun _ _ _ h => h) (Or.inl ⟨by rfl, ?_⟩) ?_ ?_
                      rotate_left
                      · intro w'
                        go_simp
                        with_reducible rfl
                      rotate_left
                      · simp only [Act.put, List.setIfInBounds_toArray, List.set_cons_zero, List.set_cons_succ, i64_w, i32_w]
                        rfl
                      refine pure_ (i := 10) (N := some 38) (v := ?_) (a' := ?_) #[true, true, true, true, true, true, true, true, true, true, true, false, false, false, false, false] rfl rfl (any_of HT_.out (by kernel_rfl)) (fun _ _ _ h => h) (Or.inl ⟨by rfl, ?_⟩) ?_ ?_
                      rotate_left
                      · intro w'
                        go_simp
                        with_reducible rfl
                      rotate_left
                      · simp only [Act.put, List.setIfInBounds_toArray, List.set_cons_zero, List.set_cons_succ, i64_w, i32_w]
                        rfl
                      refine pure_ (i := 11) (N := some 39) (v := ?_) (a' := ?_) #[true, true, true, true, true, true, true, true, true, true, true, true, false, false, false, false] rfl rfl (any_of HT_.out (by kernel_rfl)) (fun _ _ _ h => h) (Or.inl ⟨by rfl, ?_⟩) ?_ ?_
                      rotate_left
                      · intro w'
                        go_simp
                        with_reducible rfl
                      rotate_left
                      · simp only [Act.put, List.setIfInBounds_toArray, List.set_cons_zero, List.set_cons_succ, i64_w, i32_w]
                        rfl
                      refine pure_ (i := 12) (N := some 40) (v := ?_) (a' := ?_) #[true, true, true, true, true, true, true, true, true, true, true, true, true, false, false, false] rfl rfl (any_of HT_.out (by kernel_rfl)) (fun _ _ _ h => h) (Or.inl ⟨by rfl, ?_⟩) ?_ ?_
                      rotate_left
                      · intro w'
                        go_simp
                        with_reducible rfl
                      rotate_left
                      · simp only [Act.put, List.setIfInBounds_toArray, List.set_cons_zero, List.set_cons_succ, i64_w, i32_w]
                        rfl
                      refine take_ (i := 13) (N := some 41) (v := ?_) (a' := ?_) #[true, true, true, true, true, true, true, true, true, true, true, true, true, true, false, false] rfl rfl (take_ofW HT_.out HW_.out (by kernel_rfl)) (fun _ _ _ h => h) (Or.inl ⟨by rfl, ?_⟩) hHeld ?_ ?_
                      rotate_left
                      · rintro w' ⟨s0, s1, s2, s3, s4, s5, s6, s7, s8, s9, s10, s11, s12, s13, s14⟩
                        go_simp
                        with_reducible rfl
                      rotate_left
                      · simp only [Act.put, List.setIfInBounds_toArray, List.set_cons_zero, List.set_cons_succ, i64_w, i32_w]
                        rfl
                      refine pure_ (i := 14) (N := some 42) (v := ?_) (a' := ?_) #[true, true, true, true, true, true, true, true, true, true, true, true, true, true, true, false] rfl rfl (any_of HT_.out (by kernel_rfl)) (fun _ _ _ h => h) (Or.inl ⟨by rfl, ?_⟩) ?_ ?_
                      rotate_left
                      · intro w'
                        go_simp
                        with_reducible rfl
                      rotate_left
                      · simp only [Act.put, List.setIfInBounds_toArray, List.set_cons_zero, List.set_cons_succ, i64_w, i32_w]
                        rfl
                      refine pure_ (i := 15) (N := some 43) (v := ?_) (a' := ?_) #[true, true, true, true, true, true, true, true, true, true, true, true, true, true, true, true] rfl rfl (any_of HT_.out (by kernel_rfl)) (fun _ _ _ h => h) (Or.inl ⟨by rfl, ?_⟩) ?_ ?_
                      rotate_left
                      · intro w'
                        go_simp
                        with_reducible rfl
                      rotate_left
                      · simp only [Act.put, List.setIfInBounds_toArray, List.set_cons_zero, List.set_cons_succ, i64_w, i32_w]
                        rfl
                      refine done_ (done_of HT_.out (by kernel_rfl)) ?_
                      try go_wp2
                      go_roundg k2
                      case measure => have := HK1.out; have := HK2.out; omega
                      case rel => exact ⟨(x6_2), (wrap64 (x7_2 + 1)), (by first | rfl | (simp; done) | (simp [*]; done)), (by first | rfl | (simp; done) | (simp [*]; done)), H', ⟨by have := HK1.out; have := HK2.out; omega⟩, ⟨by (with_reducible repeat (first | apply Kd.R_alloc | apply Kd.R_drewN | apply Kd.R_drew)); exact HO_3.out⟩, ⟨by (with_reducible repeat (first | refine blk_drewN ?_ _ | refine blk_drew ?_ | refine blk_alloc ?_ _)); exact BK199.out⟩, ⟨by repeat (first | (with_reducible first | exact HB.out | apply below_alloc | apply pw_below_drewN | apply below_drew1 | refine below_set ?_ GE199.out) | exact HB.out)⟩⟩
                  · rw [if_neg c8] at H
                    have c8b0 : ((((rd_T51 x3_1 x7_2).f0.f0).toList) == ((rd_T65 l0 x4_1).f2.f0).toList && ((((rd_T51 x3_1 x7_2).f0.f1).toList) == ((rd_T65 l0 x4_1).f2.f1).toList && ((((rd_T51 x3_1 x7_2).f0.f2).toList) == ((rd_T65 l0 x4_1).f2.f2).toList))) = false := by simpa using c8
                    (try (have c8b1 : decide ((((rd_T51 x3_1 x7_2).f0.f0).toList) = ((rd_T65 l0 x4_1).f2.f0).toList && ((((rd_T51 x3_1 x7_2).f0.f1).toList) == ((rd_T65 l0 x4_1).f2.f1).toList && ((((rd_T51 x3_1 x7_2).f0.f2).toList) == ((rd_T65 l0 x4_1).f2.f2).toList))) = false := by simpa using c8))
                    (try (have c8b2 : ((((rd_T51 x3_1 x7_2).f0.f0).toList) == ((rd_T65 l0 x4_1).f2.f0).toList && ((((rd_T51 x3_1 x7_2).f0.f1).toList) == ((rd_T65 l0 x4_1).f2.f1).toList && ((((rd_T51 x3_1 x7_2).f0.f2).toList) == ((rd_T65 l0 x4_1).f2.f2).toList))) = false := by simpa using c8))
                    (try (have c8b3 : ¬ ((((rd_T51 x3_1 x7_2).f0.f0).toList) = ((rd_T65 l0 x4_1).f2.f0).toList && ((((rd_T51 x3_1 x7_2).f0.f1).toList) == ((rd_T65 l0 x4_1).f2.f1).toList && ((((rd_T51 x3_1 x7_2).f0.f2).toList) == ((rd_T65 l0 x4_1).f2.f2).toList))) := by simpa using c8))
                    clear c8
                    have H' := Aside0.mk H
                    clear H
                    obtain ⟨Ao14, co14, eo14⟩ := Kd.R_slice HO_3.out
                    subst eo14
                    try go_wp2
                    have n0_ := Aside0.mk (Kd.R_drew HO_3.out)
                    have n1_ := Aside0.mk (blk_drew BK199.out)
                    have n2_ := Aside0.mk (below_drew1 HB.out)
                    clear HO_3
                    clear BK199
                    clear HB
                    have HO_3 := n0_
                    have BK199 := n1_
                    have HB := n2_
                    clear n0_ n1_ n2_
                    have p200 : 0 ≤ (x7_2 : Int) := of_decide_eq_true (by first | (with_reducible assumption) | assumption)
                    have q200 : x7_2 < (x3_1.length : Int) := of_decide_eq_true (by first | (with_reducible assumption) | assumption)
                    obtain ⟨ad200, e200, hx200_0, hx200_1, hx200_2, hx200_3, hx200_4⟩ := at_T51 (Kd.R_reads' HO_3.out).2.2 x7_2 p200 q200
                    cases e200
                    replace p200 := eq_true p200
                    replace q200 := eq_true q200
                    refine start_ (n := 16) (S := fun w' => w'.cell? ⟨gb199, 0, none⟩ = some (.int .i64 ((rd_T65 l0 x4_1).f0)) ∧ w'.cell? ⟨gb199, 1, none⟩ = some (.bool ((rd_T65 l0 x4_1).f1)) ∧ w'.cell? ⟨gb199, 2, none⟩ = some (.string ((rd_T65 l0 x4_1).f2.f0)) ∧ w'.cell? ⟨gb199, 3, none⟩ = some (.string ((rd_T65 l0 x4_1).f2.f1)) ∧ w'.cell? ⟨gb199, 4, none⟩ = some (.string ((rd_T65 l0 x4_1).f2.f2)) ∧ w'.cell? (ad200.add ((x7_2).toNat * 5)) = some (.string ((rd_T51 x3_1 x7_2).f0.f0)) ∧ w'.cell? ⟨(ad200.add ((x7_2).toNat * 5)).block, (ad200.add ((x7_2).toNat * 5)).off + 1, none⟩ = some (.string ((rd_T51 x3_1 x7_2).f0.f1)) ∧ w'.cell? ⟨(ad200.add ((x7_2).toNat * 5)).block, (ad200.add ((x7_2).toNat * 5)).off + 2, none⟩ = some (.string ((rd_T51 x3_1 x7_2).f0.f2)) ∧ w'.cell? ⟨(ad200.add ((x7_2).toNat * 5)).block, (ad200.add ((x7_2).toNat * 5)).off + 3, none⟩ = some (.int .i64 ((rd_T51 x3_1 x7_2).f1)) ∧ w'.cell? ⟨(ad200.add ((x7_2).toNat * 5)).block, (ad200.add ((x7_2).toNat * 5)).off + 4, none⟩ = some (.int .i64 ((rd_T51 x3_1 x7_2).f2))) (ds := []) #[false, false, false, false, false, false, false, false, false, false, false, false, false, false, false, false] (by kernel_rfl) rfl rfl ⟨(blk_cell BK199.out 0).trans rfl, (blk_cell BK199.out 1).trans rfl, (blk_cell BK199.out 2).trans rfl, (blk_cell BK199.out 3).trans rfl, (blk_cell BK199.out 4).trans rfl, hx200_0, hx200_1, hx200_2, hx200_3, hx200_4⟩ (fun hHeld => ?_); refine with_tabW porterref22_Rows.tab10 porterref22_Rows.bits10 (fun HT_ HW_ => ?_)
                    generalize wr.drew = w15 at HO_3 BK199 HB hx200_0 hx200_1 hx200_2 hx200_3 hx200_4 hHeld ⊢
                    refine pure_ (i := 0) (N := some 28) (v := ?_) (a' := ?_) #[true, false, false, false, false, false, false, false, false, false, false, false, false, false, false, false] rfl rfl (any_of HT_.out (by kernel_rfl)) (fun _ _ _ h => h) (Or.inl ⟨by rfl, ?_⟩) ?_ ?_
                    rotate_left
                    · intro w'
                      go_simp
                      with_reducible rfl
                    rotate_left
                    · simp only [Act.put, List.setIfInBounds_toArray, List.set_cons_zero, List.set_cons_succ, i64_w, i32_w]
                      rfl
                    refine pure_ (i := 1) (N := some 29) (v := ?_) (a' := ?_) #[true, true, false, false, false, false, false, false, false, false, false, false, false, false, false, false] rfl rfl (any_of HT_.out (by kernel_rfl)) (fun _ _ _ h => h) (Or.inl ⟨by rfl, ?_⟩) ?_ ?_
                    rotate_left
                    · intro w'
                      go_simp
                      with_reducible rfl
                    rotate_left
                    · simp only [Act.put, List.setIfInBounds_toArray, List.set_cons_zero, List.set_cons_succ, i64_w, i32_w]
                      rfl
                    refine pure_ (i := 2) (N := some 30) (v := ?_) (a' := ?_) #[true, true, true, false, false, false, false, false, false, false, false, false, false, false, false, false] rfl rfl (any_of HT_.out (by kernel_rfl)) (fun _ _ _ h => h) (Or.inl ⟨by rfl, ?_⟩) ?_ ?_
                    rotate_left
                    · intro w'
                      go_simp
                      with_reducible rfl
                    rotate_left
                    · simp only [Act.put, List.setIfInBounds_toArray, List.set_cons_zero, List.set_cons_succ, i64_w, i32_w]
                      rfl
                    refine pure_ (i := 3) (N := some 31) (v := ?_) (a' := ?_) #[true, true, true, true, false, false, false, false, false, false, false, false, false, false, false, false] rfl rfl (any_of HT_.out (by kernel_rfl)) (fun _ _ _ h => h) (Or.inl ⟨by rfl, ?_⟩) ?_ ?_
                    rotate_left
                    · intro w'
                      go_simp
                      with_reducible rfl
                    rotate_left
                    · simp only [Act.put, List.setIfInBounds_toArray, List.set_cons_zero, List.set_cons_succ, i64_w, i32_w]
                      rfl
                    refine pure_ (i := 5) (N := some 33) (v := ?_) (a' := ?_) #[true, true, true, true, false, true, false, false, false, false, false, false, false, false, false, false] rfl rfl (any_of HT_.out (by kernel_rfl)) (fun _ _ _ h => h) (Or.inl ⟨by rfl, ?_⟩) ?_ ?_
                    rotate_left
                    · intro w'
                      go_simp
                      with_reducible rfl
                    rotate_left
                    · simp only [Act.put, List.setIfInBounds_toArray, List.set_cons_zero, List.set_cons_succ, i64_w, i32_w]
                      rfl
                    refine take_ (i := 4) (N := some 32) (v := ?_) (a' := ?_) #[true, true, true, true, true, true, false, false, false, false, false, false, false, false, false, false] rfl rfl (take_ofW HT_.out HW_.out (by kernel_rfl)) (fun _ _ _ h => h) (Or.inl ⟨by rfl, ?_⟩) hHeld ?_ ?_
                    rotate_left
                    · rintro w' ⟨s0, s1, s2, s3, s4, s5, s6, s7, s8, s9⟩
                      go_simp
                      with_reducible rfl
                    rotate_left
                    · simp only [Act.put, List.setIfInBounds_toArray, List.set_cons_zero, List.set_cons_succ, i64_w, i32_w]
                      rfl
                    refine take_ (i := 6) (N := some 34) (v := ?_) (a' := ?_) #[true, true, true, true, true, true, true, false, false, false, false, false, false, false, false, false] rfl rfl (take_ofW HT_.out HW_.out (by kernel_rfl)) (fun _ _ _ h => h) (Or.inl ⟨by rfl, ?_⟩) hHeld ?_ ?_
                    rotate_left
                    · rintro w' ⟨s0, s1, s2, s3, s4, s5, s6, s7, s8, s9⟩
                      go_simp
                      with_reducible rfl
                    rotate_left
                    · simp only [Act.put, List.setIfInBounds_toArray, List.set_cons_zero, List.set_cons_succ, i64_w, i32_w]
                      rfl
                    refine pure_ (i := 7) (N := some 35) (v := ?_) (a' := ?_) #[true, true, true, true, true, true, true, true, false, false, false, false, false, false, false, false] rfl rfl (any_of HT_.out (by kernel_rfl)) (fun _ _ _ h => h) (Or.inl ⟨by rfl, ?_⟩) ?_ ?_
                    rotate_left
                    · intro w'
                      go_simp
                      with_reducible rfl
                    rotate_left
                    · simp only [Act.put, List.setIfInBounds_toArray, List.set_cons_zero, List.set_cons_succ, i64_w, i32_w]
                      rfl
                    refine pure_ (i := 8) (N := some 36) (v := ?_) (a' := ?_) #[true, true, true, true, true, true, true, true, true, false, false, false, false, false, false, false] rfl rfl (any_of HT_.out (by kernel_rfl)) (fun _ _ _ h => h) (Or.inl ⟨by rfl, ?_⟩) ?_ ?_
                    rotate_left
                    · intro w'
                      go_simp
                      with_reducible rfl
                    rotate_left
                    · simp only [Act.put, List.setIfInBounds_toArray, List.set_cons_zero, List.set_cons_succ, i64_w, i32_w]
                      rfl
                    refine pure_ (i := 9) (N := some 37) (v := undef) (a' := ?_) #[true, true, true, true, true, true, true, true, true, true, false, false, false, false, false, false] rfl rfl (any_of HT_.out (by kernel_rfl)) (fun _ _ _ h => h) (Or.inr ⟨by rfl, rfl⟩) ?_ ?_
                    rotate_left
                    · simp only [Act.put, List.setIfInBounds_toArray, List.set_cons_zero, List.set_cons_succ, i64_w, i32_w]
                      rfl
                    refine pure_ (i := 10) (N := some 38) (v := undef) (a' := ?_) #[true, true, true, true, true, true, true, true, true, true, true, false, false, false, false, false] rfl rfl (any_of HT_.out (by kernel_rfl)) (fun _ _ _ h => h) (Or.inr ⟨by rfl, rfl⟩) ?_ ?_
                    rotate_left
                    · simp only [Act.put, List.setIfInBounds_toArray, List.set_cons_zero, List.set_cons_succ, i64_w, i32_w]
                      rfl
                    refine pure_ (i := 11) (N := some 39) (v := undef) (a' := ?_) #[true, true, true, true, true, true, true, true, true, true, true, true, false, false, false, false] rfl rfl (any_of HT_.out (by kernel_rfl)) (fun _ _ _ h => h) (Or.inr ⟨by rfl, rfl⟩) ?_ ?_
                    rotate_left
                    · simp only [Act.put, List.setIfInBounds_toArray, List.set_cons_zero, List.set_cons_succ, i64_w, i32_w]
                      rfl
                    refine pure_ (i := 12) (N := some 40) (v := undef) (a' := ?_) #[true, true, true, true, true, true, true, true, true, true, true, true, true, false, false, false] rfl rfl (any_of HT_.out (by kernel_rfl)) (fun _ _ _ h => h) (Or.inr ⟨by rfl, rfl⟩) ?_ ?_
                    rotate_left
                    · simp only [Act.put, List.setIfInBounds_toArray, List.set_cons_zero, List.set_cons_succ, i64_w, i32_w]
                      rfl
                    refine pure_ (i := 13) (N := some 41) (v := undef) (a' := ?_) #[true, true, true, true, true, true, true, true, true, true, true, true, true, true, false, false] rfl rfl (any_of HT_.out (by kernel_rfl)) (fun _ _ _ h => h) (Or.inr ⟨by rfl, rfl⟩) ?_ ?_
                    rotate_left
                    · simp only [Act.put, List.setIfInBounds_toArray, List.set_cons_zero, List.set_cons_succ, i64_w, i32_w]
                      rfl
                    refine pure_ (i := 14) (N := some 42) (v := undef) (a' := ?_) #[true, true, true, true, true, true, true, true, true, true, true, true, true, true, true, false] rfl rfl (any_of HT_.out (by kernel_rfl)) (fun _ _ _ h => h) (Or.inr ⟨by rfl, rfl⟩) ?_ ?_
                    rotate_left
                    · simp only [Act.put, List.setIfInBounds_toArray, List.set_cons_zero, List.set_cons_succ, i64_w, i32_w]
                      rfl
                    refine pure_ (i := 15) (N := some 43) (v := ?_) (a' := ?_) #[true, true, true, true, true, true, true, true, true, true, true, true, true, true, true, true] rfl rfl (any_of HT_.out (by kernel_rfl)) (fun _ _ _ h => h) (Or.inl ⟨by rfl, ?_⟩) ?_ ?_
                    rotate_left
                    · intro w'
                      go_simp
                      with_reducible rfl
                    rotate_left
                    · simp only [Act.put, List.setIfInBounds_toArray, List.set_cons_zero, List.set_cons_succ, i64_w, i32_w]
                      rfl
                    refine done_ (done_of HT_.out (by kernel_rfl)) ?_
                    try go_wp2
                    go_roundg k2
                    case measure => have := HK1.out; have := HK2.out; omega
                    case rel => exact ⟨(x6_2), (wrap64 (x7_2 + 1)), (by first | rfl | (simp; done) | (simp [*]; done)), (by first | rfl | (simp; done) | (simp [*]; done)), H', ⟨by have := HK1.out; have := HK2.out; omega⟩, ⟨by (with_reducible repeat (first | apply Kd.R_alloc | apply Kd.R_drewN | apply Kd.R_drew)); exact HO_3.out⟩, ⟨by (with_reducible repeat (first | refine blk_drewN ?_ _ | refine blk_drew ?_ | refine blk_alloc ?_ _)); exact BK199.out⟩, ⟨by repeat (first | (with_reducible first | exact HB.out | apply below_alloc | apply pw_below_drewN | apply below_drew1 | refine below_set ?_ GE199.out) | exact HB.out)⟩⟩
                · rw [if_neg c7] at H
                  exact absurd H (by simp)
              · rw [if_neg c6] at H
                have c6b0 : decide (x7_2 < (x3_1.length : Int)) = false := decide_eq_false c6
                clear c6
                have HC16 := Aside0.mk H
                clear H
                obtain ⟨Ao17, co17, eo17⟩ := Kd.R_slice HO_3.out
                subst eo17
                go_upto_region 12 with (fail)
                go_cut [50] (fun v50 wc => ∃ (kq : Nat) (x50_15 : Bool), v50 = .bool x50_15 ∧ Aside0 (porterref22_Rows.j2 kq l0 x3_1 x4_1 x6_2 x50_15 ((rd_T65 l0 x4_1).f0) ((rd_T65 l0 x4_1).f1) ((rd_T65 l0 x4_1).f2.f0) ((rd_T65 l0 x4_1).f2.f1) ((rd_T65 l0 x4_1).f2.f2) = some r) ∧ Aside0 (kq ≤ k2) ∧ Aside0 (Kd.R k51 51 wc w.heap.size (fun _ => True) (.slice Ao17 x3_1.length co17) x3_1) ∧ Aside0 (wc.heap[gb199]? = some (.cells #[.int .i64 ((rd_T65 l0 x4_1).f0), .bool ((rd_T65 l0 x4_1).f1), .string ((rd_T65 l0 x4_1).f2.f0), .string ((rd_T65 l0 x4_1).f2.f1), .string ((rd_T65 l0 x4_1).f2.f2)] 65 (0, 0))) ∧ Aside0 (Below w.heap.size w wc))
                case first =>
                  have H := HC16.out
                  clear HC16
                  by_cases c18 : ((rd_T65 l0 x4_1).f1) = true
                  · rw [if_pos c18] at H
                    have c18b0 : ((rd_T65 l0 x4_1).f1) = true := c18
                    clear c18
                    (first | rw [c18b0] | (simp only [i64_w, i32_w]; rw [c18b0]) | skip)
                    have H' := Aside0.mk H
                    clear H
                    have hcz19_0 : wr.cell? ⟨gb199, 0, none⟩ = some (.int .i64 ((rd_T65 l0 x4_1).f0)) := (blk_cell BK199.out 0).trans rfl
                    have hcz19_1 : wr.cell? ⟨gb199, 1, none⟩ = some (.bool ((rd_T65 l0 x4_1).f1)) := (blk_cell BK199.out 1).trans rfl
                    have hcz19_2 : wr.cell? ⟨gb199, 2, none⟩ = some (.string ((rd_T65 l0 x4_1).f2.f0)) := (blk_cell BK199.out 2).trans rfl
                    have hcz19_3 : wr.cell? ⟨gb199, 3, none⟩ = some (.string ((rd_T65 l0 x4_1).f2.f1)) := (blk_cell BK199.out 3).trans rfl
                    have hcz19_4 : wr.cell? ⟨gb199, 4, none⟩ = some (.string ((rd_T65 l0 x4_1).f2.f2)) := (blk_cell BK199.out 4).trans rfl
                    have hfz19_0 := blk_frozen BK199.out 0
                    have hfz19_1 := blk_frozen BK199.out 1
                    have hfz19_2 := blk_frozen BK199.out 2
                    have hfz19_3 := blk_frozen BK199.out 3
                    have hfz19_4 := blk_frozen BK199.out 4
                    go_wp2
                    go_meet
                    case rel => exact ⟨_, (decide (x6_2 ≥ 0)), (by first | rfl | (simp; done) | (simp [*]; done)), H', ⟨by have := HK1.out; have := HK2.out; first | omega | exact Nat.le_refl _⟩, ⟨by (with_reducible repeat (first | apply Kd.R_alloc | apply Kd.R_drewN | apply Kd.R_drew)); exact HO_3.out⟩, ⟨by (with_reducible repeat (first | refine blk_drewN ?_ _ | refine blk_drew ?_ | refine blk_alloc ?_ _)); exact BK199.out⟩, ⟨by repeat (first | (with_reducible first | exact HB.out | apply below_alloc | apply pw_below_drewN | apply below_drew1 | refine below_set ?_ GE199.out) | exact HB.out)⟩⟩
                  · rw [if_neg c18] at H
                    have c18b0 : ((rd_T65 l0 x4_1).f1) = false := by simpa using c18
                    clear c18
                    (first | rw [c18b0] | (simp only [i64_w, i32_w]; rw [c18b0]) | skip)
                    have H' := Aside0.mk H
                    clear H
                    have hcz20_0 : wr.cell? ⟨gb199, 0, none⟩ = some (.int .i64 ((rd_T65 l0 x4_1).f0)) := (blk_cell BK199.out 0).trans rfl
                    have hcz20_1 : wr.cell? ⟨gb199, 1, none⟩ = some (.bool ((rd_T65 l0 x4_1).f1)) := (blk_cell BK199.out 1).trans rfl
                    have hcz20_2 : wr.cell? ⟨gb199, 2, none⟩ = some (.string ((rd_T65 l0 x4_1).f2.f0)) := (blk_cell BK199.out 2).trans rfl
                    have hcz20_3 : wr.cell? ⟨gb199, 3, none⟩ = some (.string ((rd_T65 l0 x4_1).f2.f1)) := (blk_cell BK199.out 3).trans rfl
                    have hcz20_4 : wr.cell? ⟨gb199, 4, none⟩ = some (.string ((rd_T65 l0 x4_1).f2.f2)) := (blk_cell BK199.out 4).trans rfl
                    have hfz20_0 := blk_frozen BK199.out 0
                    have hfz20_1 := blk_frozen BK199.out 1
                    have hfz20_2 := blk_frozen BK199.out 2
                    have hfz20_3 := blk_frozen BK199.out 3
                    have hfz20_4 := blk_frozen BK199.out 4
                    go_wp2
                    go_meet
                    case rel => exact ⟨_, (false), (by first | rfl | (simp; done) | (simp [*]; done)), H', ⟨by have := HK1.out; have := HK2.out; first | omega | exact Nat.le_refl _⟩, ⟨by (with_reducible repeat (first | apply Kd.R_alloc | apply Kd.R_drewN | apply Kd.R_drew)); exact HO_3.out⟩, ⟨by (with_reducible repeat (first | refine blk_drewN ?_ _ | refine blk_drew ?_ | refine blk_alloc ?_ _)); exact BK199.out⟩, ⟨by repeat (first | (with_reducible first | exact HB.out | apply below_alloc | apply pw_below_drewN | apply below_drew1 | refine below_set ?_ GE199.out) | exact HB.out)⟩⟩
                case rest =>
                  clear HC16
                  try clear c1
                  try clear p1
                  try clear q1
                  try clear hx1
                  try clear c2
                  try clear c2b0
                  try clear p2
                  try clear q2
                  try clear hx2
                  try clear c3
                  try clear c3b0
                  try clear c6
                  try clear c6b0
                  try clear p6
                  try clear c7
                  try clear c7b0
                  try clear c8
                  try clear c8b0
                  try clear c8b1
                  try clear c8b2
                  try clear c9
                  try clear c9b0
                  try clear c9b1
                  try clear c18
                  try clear c18b0
                  try clear p19
                  try clear q19
                  try clear hx19
                  try clear p20
                  try clear q20
                  try clear hx20
                  try clear hcz19_0
                  try clear hcz19_1
                  try clear hcz19_2
                  try clear hcz19_3
                  try clear hcz19_4
                  try clear hcz20_0
                  try clear hcz20_1
                  try clear hcz20_2
                  try clear hcz20_3
                  try clear hcz20_4
                  try clear hcz5_0
                  try clear hcz5_1
                  try clear hcz5_2
                  try clear hcz5_3
                  try clear hcz5_4
                  try clear hfz19_0
                  try clear hfz19_1
                  try clear hfz19_2
                  try clear hfz19_3
                  try clear hfz19_4
                  try clear hfz20_0
                  try clear hfz20_1
                  try clear hfz20_2
                  try clear hfz20_3
                  try clear hfz20_4
                  try clear hfz5_0
                  try clear hfz5_1
                  try clear hfz5_2
                  try clear hfz5_3
                  try clear hfz5_4
                  try clear hx198_0
                  try clear hx198_1
                  try clear hx198_2
                  try clear hx198_3
                  try clear hx198_4
                  try clear hx200_0
                  try clear hx200_1
                  try clear hx200_2
                  try clear hx200_3
                  try clear hx200_4
                  try clear hx201_0
                  try clear hx201_1
                  try clear hx201_2
                  try clear hx201_3
                  try clear hx201_4
                  try clear p1
                  try clear p198
                  try clear p2
                  try clear p200
                  try clear p201
                  try clear q1
                  try clear q198
                  try clear q200
                  try clear q201
                  obtain ⟨kq, x50_15, rfl, HA, HJ15, HO_3, BK199, HB⟩ := hcut
                  cases kq with
                  | zero => exact absurd HA.out (by simp [porterref22_Rows.j2])
                  | succ kj15 =>
                    have H := HA.out
                    clear HA
                    simp only [porterref22_Rows.j2] at H
                    by_cases c21 : x50_15 = true
                    · subst c21
                      have H1 : (if 0 ≤ x6_2 then (if x6_2 < (x3_1.length : Int) then ((some (x3_1.set (x6_2 : Int).toNat (⟨(⟨(rd_T51 x3_1 x6_2).f0.f0, (rd_T51 x3_1 x6_2).f0.f1, (rd_T51 x3_1 x6_2).f0.f2⟩ : S25), (rd_T51 x3_1 x6_2).f1, ((rd_T65 l0 x4_1).f0)⟩ : S51) : List (S51))).bind fun y202 => (if ((rd_T65 l0 x4_1).f1) = true then (porterref22_Rows.l0 kj15 l0 y202 (wrap64 (x4_1 + 1))) else (if x6_2 < 0 then (if y202.length < 2199023255552 then (porterref22_Rows.l0 kj15 l0 (y202 ++ [(⟨(⟨((rd_T65 l0 x4_1).f2.f0), ((rd_T65 l0 x4_1).f2.f1), ((rd_T65 l0 x4_1).f2.f2)⟩ : S25), ((rd_T65 l0 x4_1).f0), 0⟩ : S51)]) (wrap64 (x4_1 + 1))) else (none)) else (porterref22_Rows.l0 kj15 l0 y202 (wrap64 (x4_1 + 1)))))) else (none)) else (none)) = some r := by rw [if_pos rfl] at H; exact H
                      clear H
                      have H := H1
                      clear H1
                      by_cases c22 : 0 ≤ x6_2
                      · rw [if_pos c22] at H
                        have c22b0 : decide (0 ≤ x6_2) = true := decide_eq_true c22
                        clear c22
                        by_cases c23 : x6_2 < (x3_1.length : Int)
                        · rw [if_pos c23] at H
                          have c23b0 : decide (x6_2 < (x3_1.length : Int)) = true := decide_eq_true c23
                          clear c23
                          obtain ⟨y202, hy202⟩ : ∃ y_ : List (S51), y_ = (x3_1.set (x6_2 : Int).toNat (⟨(⟨(rd_T51 x3_1 x6_2).f0.f0, (rd_T51 x3_1 x6_2).f0.f1, (rd_T51 x3_1 x6_2).f0.f2⟩ : S25), (rd_T51 x3_1 x6_2).f1, ((rd_T65 l0 x4_1).f0)⟩ : S51)) := ⟨_, rfl⟩
                          replace H : (if ((rd_T65 l0 x4_1).f1) = true then (porterref22_Rows.l0 kj15 l0 y202 (wrap64 (x4_1 + 1))) else (if x6_2 < 0 then (if y202.length < 2199023255552 then (porterref22_Rows.l0 kj15 l0 (y202 ++ [(⟨(⟨((rd_T65 l0 x4_1).f2.f0), ((rd_T65 l0 x4_1).f2.f1), ((rd_T65 l0 x4_1).f2.f2)⟩ : S25), ((rd_T65 l0 x4_1).f0), 0⟩ : S51)]) (wrap64 (x4_1 + 1))) else (none)) else (porterref22_Rows.l0 kj15 l0 y202 (wrap64 (x4_1 + 1))))) = some r := by first | (rw [hy202]; with_reducible exact H) | (have H2_ := (Option.bind_some _ _).symm.trans H; rw [hy202]; with_reducible exact H2_) | (have H2_ := (Option.bind_some _ _).symm.trans H; with_reducible exact H2_) | with_reducible exact H | (rw [hy202]; exact H) | exact H
                          have Ny202 := Aside0.mk hy202
                          clear hy202
                          by_cases c25 : ((rd_T65 l0 x4_1).f1) = true
                          · rw [if_pos c25] at H
                            have c25b0 : ((rd_T65 l0 x4_1).f1) = true := c25
                            clear c25
                            have H' := Aside0.mk H
                            clear H
                            have hcz26_0 : wc.cell? ⟨gb199, 0, none⟩ = some (.int .i64 ((rd_T65 l0 x4_1).f0)) := (blk_cell BK199.out 0).trans rfl
                            have hcz26_1 : wc.cell? ⟨gb199, 1, none⟩ = some (.bool ((rd_T65 l0 x4_1).f1)) := (blk_cell BK199.out 1).trans rfl
                            have hcz26_2 : wc.cell? ⟨gb199, 2, none⟩ = some (.string ((rd_T65 l0 x4_1).f2.f0)) := (blk_cell BK199.out 2).trans rfl
                            have hcz26_3 : wc.cell? ⟨gb199, 3, none⟩ = some (.string ((rd_T65 l0 x4_1).f2.f1)) := (blk_cell BK199.out 3).trans rfl
                            have hcz26_4 : wc.cell? ⟨gb199, 4, none⟩ = some (.string ((rd_T65 l0 x4_1).f2.f2)) := (blk_cell BK199.out 4).trans rfl
                            have hfz26_0 := blk_frozen BK199.out 0
                            have hfz26_1 := blk_frozen BK199.out 1
                            have hfz26_2 := blk_frozen BK199.out 2
                            have hfz26_3 := blk_frozen BK199.out 3
                            have hfz26_4 := blk_frozen BK199.out 4
                            have p24 : 0 ≤ (x6_2 : Int) := of_decide_eq_true (by first | (with_reducible assumption) | assumption)
                            have q24 : (x6_2 : Int) < ((x3_1.length : Int) : Int) := of_decide_eq_true (by first | (with_reducible assumption) | assumption)
                            obtain ⟨go24, co24, eo24, gb24, gl24, cl24, HG24⟩ := Kd.R_form HO_3.out (by omega)
                            (first | cases eo24 | (injection eo24 with ea_ en_ ec_; (first | subst ea_ | (injection ea_ with ea_; subst ea_)); subst ec_; clear en_))
                            have GB24 := Aside0.mk gb24
                            have GG24 := Aside0.mk HG24
                            clear gb24 gl24 HG24
                            obtain ⟨ce24, hcl24, hM24, hcc24, hfr24⟩ := Kd.R_elem HO_3.out z51 (x6_2 : Int) p24 q24
                            obtain rfl := k51_openM hM24
                            have hx24_0 : wc.cell? ⟨go24, (x6_2 : Int).toNat * 5, none⟩ = some (.string ((rd_T51 x3_1 x6_2).f0.f0)) := hcc24 0 _ rfl
                            have hx24_1 : wc.cell? ⟨go24, (x6_2 : Int).toNat * 5 + 1, none⟩ = some (.string ((rd_T51 x3_1 x6_2).f0.f1)) := hcc24 1 _ rfl
                            have hx24_2 : wc.cell? ⟨go24, (x6_2 : Int).toNat * 5 + 2, none⟩ = some (.string ((rd_T51 x3_1 x6_2).f0.f2)) := hcc24 2 _ rfl
                            have hx24_3 : wc.cell? ⟨go24, (x6_2 : Int).toNat * 5 + 3, none⟩ = some (.int .i64 ((rd_T51 x3_1 x6_2).f1)) := hcc24 3 _ rfl
                            have hx24_4 : wc.cell? ⟨go24, (x6_2 : Int).toNat * 5 + 4, none⟩ = some (.int .i64 ((rd_T51 x3_1 x6_2).f2)) := hcc24 4 _ rfl
                            have hf24_0 : wc.frozen? ⟨go24, (x6_2 : Int).toNat * 5, none⟩ = false := hfr24 0
                            have hf24_1 : wc.frozen? ⟨go24, (x6_2 : Int).toNat * 5 + 1, none⟩ = false := hfr24 1
                            have hf24_2 : wc.frozen? ⟨go24, (x6_2 : Int).toNat * 5 + 2, none⟩ = false := hfr24 2
                            have hf24_3 : wc.frozen? ⟨go24, (x6_2 : Int).toNat * 5 + 3, none⟩ = false := hfr24 3
                            have hf24_4 : wc.frozen? ⟨go24, (x6_2 : Int).toNat * 5 + 4, none⟩ = false := hfr24 4
                            clear hcl24 hcc24 hfr24 hM24
                            replace p24 := eq_true p24
                            replace q24 := eq_true q24
                            have HX27 := Aside0.mk (show Kd.R k51 51 wc w.heap.size (fun _ => True) (.slice (some ⟨go24, 0, none⟩) x3_1.length co17) x3_1 from (by (with_reducible repeat (first | apply Kd.R_alloc | apply Kd.R_drewN | apply Kd.R_drew)); exact HO_3.out))
                            obtain ⟨ce27, hcl27, hM27, hcc27, hfr27⟩ := Kd.R_elem HX27.out z51 (x6_2 : Int) (of_decide_eq_true (by first | (with_reducible assumption) | assumption)) (by have h_ : (x6_2 : Int) < ((x3_1.length : Int) : Int) := of_decide_eq_true (by first | (with_reducible assumption) | assumption); first | exact h_ | (have e_ := (Kd.R_reads' HO_3.out).1; omega) | simpa using h_)
                            obtain rfl := k51_openM hM27
                            have HP27 := Kd.R_seg HX27.out (x6_2 : Int) (of_decide_eq_true (by first | (with_reducible assumption) | assumption)) (by have h_ : (x6_2 : Int) < ((x3_1.length : Int) : Int) := of_decide_eq_true (by first | (with_reducible assumption) | assumption); first | exact h_ | (have e_ := (Kd.R_reads' HO_3.out).1; omega) | simpa using h_) (seg := [.int .i64 ((rd_T65 l0 x4_1).f0)]) (j := 4) hcl27 hcc27 (show 5 ≤ 5 from by decide) (x' := (⟨(⟨(rd_T51 x3_1 x6_2).f0.f0, (rd_T51 x3_1 x6_2).f0.f1, (rd_T51 x3_1 x6_2).f0.f2⟩ : S25), (rd_T51 x3_1 x6_2).f1, ((rd_T65 l0 x4_1).f0)⟩ : S51)) (k51_mkM _ _ _ (⟨(⟨(rd_T51 x3_1 x6_2).f0.f0, (rd_T51 x3_1 x6_2).f0.f1, (rd_T51 x3_1 x6_2).f0.f2⟩ : S25), (rd_T51 x3_1 x6_2).f1, ((rd_T65 l0 x4_1).f0)⟩ : S51) ) (fun _ hk => hk)
                            have hx27_4 := hcc27 4 _ rfl
                            (try simp only [show (k51).sz = 5 from rfl, Nat.mul_one, Nat.add_zero] at hx27_4)
                            have hf27_4 := hfr27 4
                            (try simp only [show (k51).sz = 5 from rfl, Nat.mul_one, Nat.add_zero] at hf27_4)
                            clear hcl27 hcc27 hfr27 hM27
                            go_wp2_with (first | ((with_reducible refine gate_store (t := 2) (p := 56) rfl ?_); refine store_event (t := 2) (p := 56) (v := ?vo_w28) (w1 := (wc.setCell ⟨go24, (x6_2 : Int).toNat * 5 + 4, none⟩ (.int .i64 ((rd_T65 l0 x4_1).f0)))) ?hg ?ho ?hn ?hr ?_; (case ho => rfl); (case hg => rfl); (case hn => rfl); (case hr => first | (go_simp; done) | (go_simp; rfl)); intro w28 hw; have hg : wc.grownBy w28 (some go24) := (by rw [hw]; exact HP27.2); have hp_ : Kd.R k51 51 w28 w.heap.size (fun _ => True) (.slice (some ⟨go24, 0, none⟩) x3_1.length co17) y202 := (by rw [hw, Ny202.out]; exact HP27.1); clear HP27; have n0_ := Aside0.mk (hp_); have n1_ := Aside0.mk (blk_grown (g := gb199) (o := .cells #[.int .i64 ((rd_T65 l0 x4_1).f0), .bool ((rd_T65 l0 x4_1).f1), .string ((rd_T65 l0 x4_1).f2.f0), .string ((rd_T65 l0 x4_1).f2.f1), .string ((rd_T65 l0 x4_1).f2.f2)] 65 (0, 0)) (by (with_reducible repeat (first | refine blk_drewN ?_ _ | refine blk_drew ?_ | refine blk_alloc ?_ _)); exact BK199.out) hg (Kd.R_ne HO_3.out BK199.out (by decide))); have n2_ := Aside0.mk ((by rw [hw]; exact below_set (HB.out) GB24.out : Below w.heap.size w w28)); clear HO_3; clear BK199; clear HB; have HO_3 := n0_; have BK199 := n1_; have HB := n2_; clear n0_ n1_ n2_; clear hg hw hp_; have hcz29_0 : w28.cell? ⟨gb199, 0, none⟩ = some (.int .i64 ((rd_T65 l0 x4_1).f0)) := (blk_cell BK199.out 0).trans rfl; have hcz29_1 : w28.cell? ⟨gb199, 1, none⟩ = some (.bool ((rd_T65 l0 x4_1).f1)) := (blk_cell BK199.out 1).trans rfl; have hcz29_2 : w28.cell? ⟨gb199, 2, none⟩ = some (.string ((rd_T65 l0 x4_1).f2.f0)) := (blk_cell BK199.out 2).trans rfl; have hcz29_3 : w28.cell? ⟨gb199, 3, none⟩ = some (.string ((rd_T65 l0 x4_1).f2.f1)) := (blk_cell BK199.out 3).trans rfl; have hcz29_4 : w28.cell? ⟨gb199, 4, none⟩ = some (.string ((rd_T65 l0 x4_1).f2.f2)) := (blk_cell BK199.out 4).trans rfl; have hfz29_0 := blk_frozen BK199.out 0; have hfz29_1 := blk_frozen BK199.out 1; have hfz29_2 := blk_frozen BK199.out 2; have hfz29_3 := blk_frozen BK199.out 3; have hfz29_4 := blk_frozen BK199.out 4))
                            go_roundg kj15
                            case measure => have := HK1.out; have := HK2.out; have := HJ15.out; omega
                            case rel => exact ⟨(y202), (wrap64 (x4_1 + 1)), (by first | rfl | (simp; done) | (simp [*]; done)), H', ⟨by have := HK1.out; have := HK2.out; have := HJ15.out; omega⟩, ⟨by (with_reducible repeat (first | apply Kd.R_alloc | apply Kd.R_drewN | apply Kd.R_drew)); exact HO_3.out⟩, ⟨by repeat (first | (with_reducible first | exact HB.out | apply below_alloc | apply pw_below_drewN | apply below_drew1 | refine below_set ?_ GE199.out) | exact HB.out)⟩⟩
                          · rw [if_neg c25] at H
                            have c25b0 : ((rd_T65 l0 x4_1).f1) = false := by simpa using c25
                            clear c25
                            by_cases c30 : x6_2 < 0
                            · rw [if_pos c30] at H
                              have c30b0 : decide (x6_2 < 0) = true := decide_eq_true c30
                              clear c30
                              by_cases c31 : y202.length < 2199023255552
                              · rw [if_pos c31] at H
                                have LMc31 := Aside0.mk c31
                                clear c31
                                obtain ⟨y203, hy203⟩ : ∃ y_ : List (S51), y_ = (y202 ++ [(⟨(⟨((rd_T65 l0 x4_1).f2.f0), ((rd_T65 l0 x4_1).f2.f1), ((rd_T65 l0 x4_1).f2.f2)⟩ : S25), ((rd_T65 l0 x4_1).f0), 0⟩ : S51)]) := ⟨_, rfl⟩
                                replace H : (porterref22_Rows.l0 kj15 l0 y203 (wrap64 (x4_1 + 1))) = some r := by first | (rw [hy203]; with_reducible exact H) | (have H2_ := (Option.bind_some _ _).symm.trans H; rw [hy203]; with_reducible exact H2_) | (have H2_ := (Option.bind_some _ _).symm.trans H; with_reducible exact H2_) | with_reducible exact H | (rw [hy203]; exact H) | exact H
                                have Ny203 := Aside0.mk hy203
                                clear hy203
                                have H' := Aside0.mk H
                                clear H
                                have hcz32_0 : wc.cell? ⟨gb199, 0, none⟩ = some (.int .i64 ((rd_T65 l0 x4_1).f0)) := (blk_cell BK199.out 0).trans rfl
                                have hcz32_1 : wc.cell? ⟨gb199, 1, none⟩ = some (.bool ((rd_T65 l0 x4_1).f1)) := (blk_cell BK199.out 1).trans rfl
                                have hcz32_2 : wc.cell? ⟨gb199, 2, none⟩ = some (.string ((rd_T65 l0 x4_1).f2.f0)) := (blk_cell BK199.out 2).trans rfl
                                have hcz32_3 : wc.cell? ⟨gb199, 3, none⟩ = some (.string ((rd_T65 l0 x4_1).f2.f1)) := (blk_cell BK199.out 3).trans rfl
                                have hcz32_4 : wc.cell? ⟨gb199, 4, none⟩ = some (.string ((rd_T65 l0 x4_1).f2.f2)) := (blk_cell BK199.out 4).trans rfl
                                have hfz32_0 := blk_frozen BK199.out 0
                                have hfz32_1 := blk_frozen BK199.out 1
                                have hfz32_2 := blk_frozen BK199.out 2
                                have hfz32_3 := blk_frozen BK199.out 3
                                have hfz32_4 := blk_frozen BK199.out 4
                                have p24 : 0 ≤ (x6_2 : Int) := of_decide_eq_true (by first | (with_reducible assumption) | assumption)
                                have q24 : (x6_2 : Int) < ((x3_1.length : Int) : Int) := of_decide_eq_true (by first | (with_reducible assumption) | assumption)
                                obtain ⟨go24, co24, eo24, gb24, gl24, cl24, HG24⟩ := Kd.R_form HO_3.out (by omega)
                                (first | cases eo24 | (injection eo24 with ea_ en_ ec_; (first | subst ea_ | (injection ea_ with ea_; subst ea_)); subst ec_; clear en_))
                                have GB24 := Aside0.mk gb24
                                have GG24 := Aside0.mk HG24
                                clear gb24 gl24 HG24
                                obtain ⟨ce24, hcl24, hM24, hcc24, hfr24⟩ := Kd.R_elem HO_3.out z51 (x6_2 : Int) p24 q24
                                obtain rfl := k51_openM hM24
                                have hx24_0 : wc.cell? ⟨go24, (x6_2 : Int).toNat * 5, none⟩ = some (.string ((rd_T51 x3_1 x6_2).f0.f0)) := hcc24 0 _ rfl
                                have hx24_1 : wc.cell? ⟨go24, (x6_2 : Int).toNat * 5 + 1, none⟩ = some (.string ((rd_T51 x3_1 x6_2).f0.f1)) := hcc24 1 _ rfl
                                have hx24_2 : wc.cell? ⟨go24, (x6_2 : Int).toNat * 5 + 2, none⟩ = some (.string ((rd_T51 x3_1 x6_2).f0.f2)) := hcc24 2 _ rfl
                                have hx24_3 : wc.cell? ⟨go24, (x6_2 : Int).toNat * 5 + 3, none⟩ = some (.int .i64 ((rd_T51 x3_1 x6_2).f1)) := hcc24 3 _ rfl
                                have hx24_4 : wc.cell? ⟨go24, (x6_2 : Int).toNat * 5 + 4, none⟩ = some (.int .i64 ((rd_T51 x3_1 x6_2).f2)) := hcc24 4 _ rfl
                                have hf24_0 : wc.frozen? ⟨go24, (x6_2 : Int).toNat * 5, none⟩ = false := hfr24 0
                                have hf24_1 : wc.frozen? ⟨go24, (x6_2 : Int).toNat * 5 + 1, none⟩ = false := hfr24 1
                                have hf24_2 : wc.frozen? ⟨go24, (x6_2 : Int).toNat * 5 + 2, none⟩ = false := hfr24 2
                                have hf24_3 : wc.frozen? ⟨go24, (x6_2 : Int).toNat * 5 + 3, none⟩ = false := hfr24 3
                                have hf24_4 : wc.frozen? ⟨go24, (x6_2 : Int).toNat * 5 + 4, none⟩ = false := hfr24 4
                                clear hcl24 hcc24 hfr24 hM24
                                replace p24 := eq_true p24
                                replace q24 := eq_true q24
                                have HX33 := Aside0.mk (show Kd.R k51 51 wc w.heap.size (fun _ => True) (.slice (some ⟨go24, 0, none⟩) x3_1.length co17) x3_1 from (by (with_reducible repeat (first | apply Kd.R_alloc | apply Kd.R_drewN | apply Kd.R_drew)); exact HO_3.out))
                                obtain ⟨ce33, hcl33, hM33, hcc33, hfr33⟩ := Kd.R_elem HX33.out z51 (x6_2 : Int) (of_decide_eq_true (by first | (with_reducible assumption) | assumption)) (by have h_ : (x6_2 : Int) < ((x3_1.length : Int) : Int) := of_decide_eq_true (by first | (with_reducible assumption) | assumption); first | exact h_ | (have e_ := (Kd.R_reads' HO_3.out).1; omega) | simpa using h_)
                                obtain rfl := k51_openM hM33
                                have HP33 := Kd.R_seg HX33.out (x6_2 : Int) (of_decide_eq_true (by first | (with_reducible assumption) | assumption)) (by have h_ : (x6_2 : Int) < ((x3_1.length : Int) : Int) := of_decide_eq_true (by first | (with_reducible assumption) | assumption); first | exact h_ | (have e_ := (Kd.R_reads' HO_3.out).1; omega) | simpa using h_) (seg := [.int .i64 ((rd_T65 l0 x4_1).f0)]) (j := 4) hcl33 hcc33 (show 5 ≤ 5 from by decide) (x' := (⟨(⟨(rd_T51 x3_1 x6_2).f0.f0, (rd_T51 x3_1 x6_2).f0.f1, (rd_T51 x3_1 x6_2).f0.f2⟩ : S25), (rd_T51 x3_1 x6_2).f1, ((rd_T65 l0 x4_1).f0)⟩ : S51)) (k51_mkM _ _ _ (⟨(⟨(rd_T51 x3_1 x6_2).f0.f0, (rd_T51 x3_1 x6_2).f0.f1, (rd_T51 x3_1 x6_2).f0.f2⟩ : S25), (rd_T51 x3_1 x6_2).f1, ((rd_T65 l0 x4_1).f0)⟩ : S51) ) (fun _ hk => hk)
                                have hx33_4 := hcc33 4 _ rfl
                                (try simp only [show (k51).sz = 5 from rfl, Nat.mul_one, Nat.add_zero] at hx33_4)
                                have hf33_4 := hfr33 4
                                (try simp only [show (k51).sz = 5 from rfl, Nat.mul_one, Nat.add_zero] at hf33_4)
                                clear hcl33 hcc33 hfr33 hM33
                                go_wp2_with (first | ((with_reducible refine gate_store (t := 2) (p := 56) rfl ?_); refine store_event (t := 2) (p := 56) (v := ?vo_w34) (w1 := (wc.setCell ⟨go24, (x6_2 : Int).toNat * 5 + 4, none⟩ (.int .i64 ((rd_T65 l0 x4_1).f0)))) ?hg ?ho ?hn ?hr ?_; (case ho => rfl); (case hg => rfl); (case hn => rfl); (case hr => first | (go_simp; done) | (go_simp; rfl)); intro w34 hw; have hg : wc.grownBy w34 (some go24) := (by rw [hw]; exact HP33.2); have hp_ : Kd.R k51 51 w34 w.heap.size (fun _ => True) (.slice (some ⟨go24, 0, none⟩) x3_1.length co17) y202 := (by rw [hw, Ny202.out]; exact HP33.1); clear HP33; have n0_ := Aside0.mk (hp_); have n1_ := Aside0.mk (blk_grown (g := gb199) (o := .cells #[.int .i64 ((rd_T65 l0 x4_1).f0), .bool ((rd_T65 l0 x4_1).f1), .string ((rd_T65 l0 x4_1).f2.f0), .string ((rd_T65 l0 x4_1).f2.f1), .string ((rd_T65 l0 x4_1).f2.f2)] 65 (0, 0)) (by (with_reducible repeat (first | refine blk_drewN ?_ _ | refine blk_drew ?_ | refine blk_alloc ?_ _)); exact BK199.out) hg (Kd.R_ne HO_3.out BK199.out (by decide))); have n2_ := Aside0.mk ((by rw [hw]; exact below_set (HB.out) GB24.out : Below w.heap.size w w34)); clear HO_3; clear BK199; clear HB; have HO_3 := n0_; have BK199 := n1_; have HB := n2_; clear n0_ n1_ n2_; clear hg hw hp_; have hcz35_0 : w34.cell? ⟨gb199, 0, none⟩ = some (.int .i64 ((rd_T65 l0 x4_1).f0)) := (blk_cell BK199.out 0).trans rfl; have hcz35_1 : w34.cell? ⟨gb199, 1, none⟩ = some (.bool ((rd_T65 l0 x4_1).f1)) := (blk_cell BK199.out 1).trans rfl; have hcz35_2 : w34.cell? ⟨gb199, 2, none⟩ = some (.string ((rd_T65 l0 x4_1).f2.f0)) := (blk_cell BK199.out 2).trans rfl; have hcz35_3 : w34.cell? ⟨gb199, 3, none⟩ = some (.string ((rd_T65 l0 x4_1).f2.f1)) := (blk_cell BK199.out 3).trans rfl; have hcz35_4 : w34.cell? ⟨gb199, 4, none⟩ = some (.string ((rd_T65 l0 x4_1).f2.f2)) := (blk_cell BK199.out 4).trans rfl; have hfz35_0 := blk_frozen BK199.out 0; have hfz35_1 := blk_frozen BK199.out 1; have hfz35_2 := blk_frozen BK199.out 2; have hfz35_3 := blk_frozen BK199.out 3; have hfz35_4 := blk_frozen BK199.out 4) | ((with_reducible refine gate_builtin (b := .append) (xs := #[.tmp 64, .tmp 70]) rfl ?_); at_builtin; refine Kd.R_append k51 (w0 := w) w.heap.size rfl (.tmp 64) (.tmp 70) 30 51 (.agg #[(.string ⟨#[]⟩), (.string ⟨#[]⟩), (.string ⟨#[]⟩), (.int .i64 0), (.int .i64 0)]) 64 rfl Try.underlying30 info51 rfl (by decide) (by omega) (.slice (some ⟨go24, 0, none⟩) x3_1.length co17) y202 (⟨(⟨((rd_T65 l0 x4_1).f2.f0), ((rd_T65 l0 x4_1).f2.f1), ((rd_T65 l0 x4_1).f2.f2)⟩ : S25), ((rd_T65 l0 x4_1).f0), 0⟩ : S51) [.string ((rd_T65 l0 x4_1).f2.f0), .string ((rd_T65 l0 x4_1).f2.f1), .string ((rd_T65 l0 x4_1).f2.f2), .int .i64 ((rd_T65 l0 x4_1).f0), .int .i64 0] (fun _ => True) (fun _ => False) rfl rfl ?aP (fun _ hk => hk.elim) ?aF ?aO ?aB ?aS ?aL ?_; (case aP => exact k51_mkM _ _ _ (⟨(⟨((rd_T65 l0 x4_1).f2.f0), ((rd_T65 l0 x4_1).f2.f1), ((rd_T65 l0 x4_1).f2.f2)⟩ : S25), ((rd_T65 l0 x4_1).f0), 0⟩ : S51)); (case aB => exact (by repeat (first | (with_reducible first | exact HB.out | apply below_alloc | apply pw_below_drewN | apply below_drew1 | refine below_set ?_ GE199.out) | exact HB.out))); (case aF => exact (fun _ _ => trivial)); (case aO => exact (by (with_reducible repeat (first | apply Kd.R_alloc | apply Kd.R_drewN | apply Kd.R_drew)); exact HO_3.out)); (case aS => exact (below_size (by repeat (first | (with_reducible first | exact HB.out | apply below_alloc | apply pw_below_drewN | apply below_drew1 | refine below_set ?_ GE199.out) | exact HB.out)))); (case aL => have := LMc31.out; omega); intro v204 w36 ho hb hg hat; rw [← Ny203.out] at ho; have n0_ := Aside0.mk (blk_grown (g := gb199) (o := .cells #[.int .i64 ((rd_T65 l0 x4_1).f0), .bool ((rd_T65 l0 x4_1).f1), .string ((rd_T65 l0 x4_1).f2.f0), .string ((rd_T65 l0 x4_1).f2.f1), .string ((rd_T65 l0 x4_1).f2.f2)] 65 (0, 0)) (by (with_reducible repeat (first | refine blk_drewN ?_ _ | refine blk_drew ?_ | refine blk_alloc ?_ _)); exact BK199.out) hg (Kd.R_ne HO_3.out BK199.out (by decide))); have n1_ := Aside0.mk (hb); have n2_ := Aside0.mk (ho); clear BK199; clear HB; clear HO_3; have BK199 := n0_; have HB := n1_; have HO205 := n2_; clear n0_ n1_ n2_; clear ho hb hg hat))
                                go_roundg kj15
                                case measure => have := HK1.out; have := HK2.out; have := HJ15.out; omega
                                case rel => exact ⟨(y203), (wrap64 (x4_1 + 1)), (by first | rfl | (simp; done) | (simp [*]; done)), H', ⟨by have := HK1.out; have := HK2.out; have := HJ15.out; omega⟩, ⟨by (with_reducible repeat (first | apply Kd.R_alloc | apply Kd.R_drewN | apply Kd.R_drew)); exact HO205.out⟩, ⟨by repeat (first | (with_reducible first | exact HB.out | apply below_alloc | apply pw_below_drewN | apply below_drew1 | refine below_set ?_ GE199.out) | exact HB.out)⟩⟩
                              · rw [if_neg c31] at H
                                exact absurd H (by simp)
                            · rw [if_neg c30] at H
                              have c30b0 : decide (x6_2 < 0) = false := decide_eq_false c30
                              clear c30
                              have H' := Aside0.mk H
                              clear H
                              have hcz37_0 : wc.cell? ⟨gb199, 0, none⟩ = some (.int .i64 ((rd_T65 l0 x4_1).f0)) := (blk_cell BK199.out 0).trans rfl
                              have hcz37_1 : wc.cell? ⟨gb199, 1, none⟩ = some (.bool ((rd_T65 l0 x4_1).f1)) := (blk_cell BK199.out 1).trans rfl
                              have hcz37_2 : wc.cell? ⟨gb199, 2, none⟩ = some (.string ((rd_T65 l0 x4_1).f2.f0)) := (blk_cell BK199.out 2).trans rfl
                              have hcz37_3 : wc.cell? ⟨gb199, 3, none⟩ = some (.string ((rd_T65 l0 x4_1).f2.f1)) := (blk_cell BK199.out 3).trans rfl
                              have hcz37_4 : wc.cell? ⟨gb199, 4, none⟩ = some (.string ((rd_T65 l0 x4_1).f2.f2)) := (blk_cell BK199.out 4).trans rfl
                              have hfz37_0 := blk_frozen BK199.out 0
                              have hfz37_1 := blk_frozen BK199.out 1
                              have hfz37_2 := blk_frozen BK199.out 2
                              have hfz37_3 := blk_frozen BK199.out 3
                              have hfz37_4 := blk_frozen BK199.out 4
                              have p24 : 0 ≤ (x6_2 : Int) := of_decide_eq_true (by first | (with_reducible assumption) | assumption)
                              have q24 : (x6_2 : Int) < ((x3_1.length : Int) : Int) := of_decide_eq_true (by first | (with_reducible assumption) | assumption)
                              obtain ⟨go24, co24, eo24, gb24, gl24, cl24, HG24⟩ := Kd.R_form HO_3.out (by omega)
                              (first | cases eo24 | (injection eo24 with ea_ en_ ec_; (first | subst ea_ | (injection ea_ with ea_; subst ea_)); subst ec_; clear en_))
                              have GB24 := Aside0.mk gb24
                              have GG24 := Aside0.mk HG24
                              clear gb24 gl24 HG24
                              obtain ⟨ce24, hcl24, hM24, hcc24, hfr24⟩ := Kd.R_elem HO_3.out z51 (x6_2 : Int) p24 q24
                              obtain rfl := k51_openM hM24
                              have hx24_0 : wc.cell? ⟨go24, (x6_2 : Int).toNat * 5, none⟩ = some (.string ((rd_T51 x3_1 x6_2).f0.f0)) := hcc24 0 _ rfl
                              have hx24_1 : wc.cell? ⟨go24, (x6_2 : Int).toNat * 5 + 1, none⟩ = some (.string ((rd_T51 x3_1 x6_2).f0.f1)) := hcc24 1 _ rfl
                              have hx24_2 : wc.cell? ⟨go24, (x6_2 : Int).toNat * 5 + 2, none⟩ = some (.string ((rd_T51 x3_1 x6_2).f0.f2)) := hcc24 2 _ rfl
                              have hx24_3 : wc.cell? ⟨go24, (x6_2 : Int).toNat * 5 + 3, none⟩ = some (.int .i64 ((rd_T51 x3_1 x6_2).f1)) := hcc24 3 _ rfl
                              have hx24_4 : wc.cell? ⟨go24, (x6_2 : Int).toNat * 5 + 4, none⟩ = some (.int .i64 ((rd_T51 x3_1 x6_2).f2)) := hcc24 4 _ rfl
                              have hf24_0 : wc.frozen? ⟨go24, (x6_2 : Int).toNat * 5, none⟩ = false := hfr24 0
                              have hf24_1 : wc.frozen? ⟨go24, (x6_2 : Int).toNat * 5 + 1, none⟩ = false := hfr24 1
                              have hf24_2 : wc.frozen? ⟨go24, (x6_2 : Int).toNat * 5 + 2, none⟩ = false := hfr24 2
                              have hf24_3 : wc.frozen? ⟨go24, (x6_2 : Int).toNat * 5 + 3, none⟩ = false := hfr24 3
                              have hf24_4 : wc.frozen? ⟨go24, (x6_2 : Int).toNat * 5 + 4, none⟩ = false := hfr24 4
                              clear hcl24 hcc24 hfr24 hM24
                              replace p24 := eq_true p24
                              replace q24 := eq_true q24
                              have HX38 := Aside0.mk (show Kd.R k51 51 wc w.heap.size (fun _ => True) (.slice (some ⟨go24, 0, none⟩) x3_1.length co17) x3_1 from (by (with_reducible repeat (first | apply Kd.R_alloc | apply Kd.R_drewN | apply Kd.R_drew)); exact HO_3.out))
                              obtain ⟨ce38, hcl38, hM38, hcc38, hfr38⟩ := Kd.R_elem HX38.out z51 (x6_2 : Int) (of_decide_eq_true (by first | (with_reducible assumption) | assumption)) (by have h_ : (x6_2 : Int) < ((x3_1.length : Int) : Int) := of_decide_eq_true (by first | (with_reducible assumption) | assumption); first | exact h_ | (have e_ := (Kd.R_reads' HO_3.out).1; omega) | simpa using h_)
                              obtain rfl := k51_openM hM38
                              have HP38 := Kd.R_seg HX38.out (x6_2 : Int) (of_decide_eq_true (by first | (with_reducible assumption) | assumption)) (by have h_ : (x6_2 : Int) < ((x3_1.length : Int) : Int) := of_decide_eq_true (by first | (with_reducible assumption) | assumption); first | exact h_ | (have e_ := (Kd.R_reads' HO_3.out).1; omega) | simpa using h_) (seg := [.int .i64 ((rd_T65 l0 x4_1).f0)]) (j := 4) hcl38 hcc38 (show 5 ≤ 5 from by decide) (x' := (⟨(⟨(rd_T51 x3_1 x6_2).f0.f0, (rd_T51 x3_1 x6_2).f0.f1, (rd_T51 x3_1 x6_2).f0.f2⟩ : S25), (rd_T51 x3_1 x6_2).f1, ((rd_T65 l0 x4_1).f0)⟩ : S51)) (k51_mkM _ _ _ (⟨(⟨(rd_T51 x3_1 x6_2).f0.f0, (rd_T51 x3_1 x6_2).f0.f1, (rd_T51 x3_1 x6_2).f0.f2⟩ : S25), (rd_T51 x3_1 x6_2).f1, ((rd_T65 l0 x4_1).f0)⟩ : S51) ) (fun _ hk => hk)
                              have hx38_4 := hcc38 4 _ rfl
                              (try simp only [show (k51).sz = 5 from rfl, Nat.mul_one, Nat.add_zero] at hx38_4)
                              have hf38_4 := hfr38 4
                              (try simp only [show (k51).sz = 5 from rfl, Nat.mul_one, Nat.add_zero] at hf38_4)
                              clear hcl38 hcc38 hfr38 hM38
                              go_wp2_with (first | ((with_reducible refine gate_store (t := 2) (p := 56) rfl ?_); refine store_event (t := 2) (p := 56) (v := ?vo_w39) (w1 := (wc.setCell ⟨go24, (x6_2 : Int).toNat * 5 + 4, none⟩ (.int .i64 ((rd_T65 l0 x4_1).f0)))) ?hg ?ho ?hn ?hr ?_; (case ho => rfl); (case hg => rfl); (case hn => rfl); (case hr => first | (go_simp; done) | (go_simp; rfl)); intro w39 hw; have hg : wc.grownBy w39 (some go24) := (by rw [hw]; exact HP38.2); have hp_ : Kd.R k51 51 w39 w.heap.size (fun _ => True) (.slice (some ⟨go24, 0, none⟩) x3_1.length co17) y202 := (by rw [hw, Ny202.out]; exact HP38.1); clear HP38; have n0_ := Aside0.mk (hp_); have n1_ := Aside0.mk (blk_grown (g := gb199) (o := .cells #[.int .i64 ((rd_T65 l0 x4_1).f0), .bool ((rd_T65 l0 x4_1).f1), .string ((rd_T65 l0 x4_1).f2.f0), .string ((rd_T65 l0 x4_1).f2.f1), .string ((rd_T65 l0 x4_1).f2.f2)] 65 (0, 0)) (by (with_reducible repeat (first | refine blk_drewN ?_ _ | refine blk_drew ?_ | refine blk_alloc ?_ _)); exact BK199.out) hg (Kd.R_ne HO_3.out BK199.out (by decide))); have n2_ := Aside0.mk ((by rw [hw]; exact below_set (HB.out) GB24.out : Below w.heap.size w w39)); clear HO_3; clear BK199; clear HB; have HO_3 := n0_; have BK199 := n1_; have HB := n2_; clear n0_ n1_ n2_; clear hg hw hp_; have hcz40_0 : w39.cell? ⟨gb199, 0, none⟩ = some (.int .i64 ((rd_T65 l0 x4_1).f0)) := (blk_cell BK199.out 0).trans rfl; have hcz40_1 : w39.cell? ⟨gb199, 1, none⟩ = some (.bool ((rd_T65 l0 x4_1).f1)) := (blk_cell BK199.out 1).trans rfl; have hcz40_2 : w39.cell? ⟨gb199, 2, none⟩ = some (.string ((rd_T65 l0 x4_1).f2.f0)) := (blk_cell BK199.out 2).trans rfl; have hcz40_3 : w39.cell? ⟨gb199, 3, none⟩ = some (.string ((rd_T65 l0 x4_1).f2.f1)) := (blk_cell BK199.out 3).trans rfl; have hcz40_4 : w39.cell? ⟨gb199, 4, none⟩ = some (.string ((rd_T65 l0 x4_1).f2.f2)) := (blk_cell BK199.out 4).trans rfl; have hfz40_0 := blk_frozen BK199.out 0; have hfz40_1 := blk_frozen BK199.out 1; have hfz40_2 := blk_frozen BK199.out 2; have hfz40_3 := blk_frozen BK199.out 3; have hfz40_4 := blk_frozen BK199.out 4))
                              go_roundg kj15
                              case measure => have := HK1.out; have := HK2.out; have := HJ15.out; omega
                              case rel => exact ⟨(y202), (wrap64 (x4_1 + 1)), (by first | rfl | (simp; done) | (simp [*]; done)), H', ⟨by have := HK1.out; have := HK2.out; have := HJ15.out; omega⟩, ⟨by (with_reducible repeat (first | apply Kd.R_alloc | apply Kd.R_drewN | apply Kd.R_drew)); exact HO_3.out⟩, ⟨by repeat (first | (with_reducible first | exact HB.out | apply below_alloc | apply pw_below_drewN | apply below_drew1 | refine below_set ?_ GE199.out) | exact HB.out)⟩⟩
                        · rw [if_neg c23] at H
                          exact absurd H (by simp)
                      · rw [if_neg c22] at H
                        exact absurd H (by simp)
                    · replace c21 := Bool.eq_false_iff.mpr c21
                      subst c21
                      have H1 : (if ((rd_T65 l0 x4_1).f1) = true then (porterref22_Rows.l0 kj15 l0 x3_1 (wrap64 (x4_1 + 1))) else (if x6_2 < 0 then (if x3_1.length < 2199023255552 then (porterref22_Rows.l0 kj15 l0 (x3_1 ++ [(⟨(⟨((rd_T65 l0 x4_1).f2.f0), ((rd_T65 l0 x4_1).f2.f1), ((rd_T65 l0 x4_1).f2.f2)⟩ : S25), ((rd_T65 l0 x4_1).f0), 0⟩ : S51)]) (wrap64 (x4_1 + 1))) else (none)) else (porterref22_Rows.l0 kj15 l0 x3_1 (wrap64 (x4_1 + 1))))) = some r := by rw [if_neg (show ¬ (false = true) by decide)] at H; exact H
                      clear H
                      have H := H1
                      clear H1
                      by_cases c41 : ((rd_T65 l0 x4_1).f1) = true
                      · rw [if_pos c41] at H
                        have c41b0 : ((rd_T65 l0 x4_1).f1) = true := c41
                        clear c41
                        have H' := Aside0.mk H
                        clear H
                        have hcz42_0 : wc.cell? ⟨gb199, 0, none⟩ = some (.int .i64 ((rd_T65 l0 x4_1).f0)) := (blk_cell BK199.out 0).trans rfl
                        have hcz42_1 : wc.cell? ⟨gb199, 1, none⟩ = some (.bool ((rd_T65 l0 x4_1).f1)) := (blk_cell BK199.out 1).trans rfl
                        have hcz42_2 : wc.cell? ⟨gb199, 2, none⟩ = some (.string ((rd_T65 l0 x4_1).f2.f0)) := (blk_cell BK199.out 2).trans rfl
                        have hcz42_3 : wc.cell? ⟨gb199, 3, none⟩ = some (.string ((rd_T65 l0 x4_1).f2.f1)) := (blk_cell BK199.out 3).trans rfl
                        have hcz42_4 : wc.cell? ⟨gb199, 4, none⟩ = some (.string ((rd_T65 l0 x4_1).f2.f2)) := (blk_cell BK199.out 4).trans rfl
                        have hfz42_0 := blk_frozen BK199.out 0
                        have hfz42_1 := blk_frozen BK199.out 1
                        have hfz42_2 := blk_frozen BK199.out 2
                        have hfz42_3 := blk_frozen BK199.out 3
                        have hfz42_4 := blk_frozen BK199.out 4
                        go_wp2
                        go_roundg kj15
                        case measure => have := HK1.out; have := HK2.out; have := HJ15.out; omega
                        case rel => exact ⟨(x3_1), (wrap64 (x4_1 + 1)), (by first | rfl | (simp; done) | (simp [*]; done)), H', ⟨by have := HK1.out; have := HK2.out; have := HJ15.out; omega⟩, ⟨by (with_reducible repeat (first | apply Kd.R_alloc | apply Kd.R_drewN | apply Kd.R_drew)); exact HO_3.out⟩, ⟨by repeat (first | (with_reducible first | exact HB.out | apply below_alloc | apply pw_below_drewN | apply below_drew1 | refine below_set ?_ GE199.out) | exact HB.out)⟩⟩
                      · rw [if_neg c41] at H
                        have c41b0 : ((rd_T65 l0 x4_1).f1) = false := by simpa using c41
                        clear c41
                        by_cases c43 : x6_2 < 0
                        · rw [if_pos c43] at H
                          have c43b0 : decide (x6_2 < 0) = true := decide_eq_true c43
                          clear c43
                          by_cases c44 : x3_1.length < 2199023255552
                          · rw [if_pos c44] at H
                            have LMc44 := Aside0.mk c44
                            clear c44
                            obtain ⟨y206, hy206⟩ : ∃ y_ : List (S51), y_ = (x3_1 ++ [(⟨(⟨((rd_T65 l0 x4_1).f2.f0), ((rd_T65 l0 x4_1).f2.f1), ((rd_T65 l0 x4_1).f2.f2)⟩ : S25), ((rd_T65 l0 x4_1).f0), 0⟩ : S51)]) := ⟨_, rfl⟩
                            replace H : (porterref22_Rows.l0 kj15 l0 y206 (wrap64 (x4_1 + 1))) = some r := by first | (rw [hy206]; with_reducible exact H) | (have H2_ := (Option.bind_some _ _).symm.trans H; rw [hy206]; with_reducible exact H2_) | (have H2_ := (Option.bind_some _ _).symm.trans H; with_reducible exact H2_) | with_reducible exact H | (rw [hy206]; exact H) | exact H
                            have Ny206 := Aside0.mk hy206
                            clear hy206
                            have H' := Aside0.mk H
                            clear H
                            have hcz45_0 : wc.cell? ⟨gb199, 0, none⟩ = some (.int .i64 ((rd_T65 l0 x4_1).f0)) := (blk_cell BK199.out 0).trans rfl
                            have hcz45_1 : wc.cell? ⟨gb199, 1, none⟩ = some (.bool ((rd_T65 l0 x4_1).f1)) := (blk_cell BK199.out 1).trans rfl
                            have hcz45_2 : wc.cell? ⟨gb199, 2, none⟩ = some (.string ((rd_T65 l0 x4_1).f2.f0)) := (blk_cell BK199.out 2).trans rfl
                            have hcz45_3 : wc.cell? ⟨gb199, 3, none⟩ = some (.string ((rd_T65 l0 x4_1).f2.f1)) := (blk_cell BK199.out 3).trans rfl
                            have hcz45_4 : wc.cell? ⟨gb199, 4, none⟩ = some (.string ((rd_T65 l0 x4_1).f2.f2)) := (blk_cell BK199.out 4).trans rfl
                            have hfz45_0 := blk_frozen BK199.out 0
                            have hfz45_1 := blk_frozen BK199.out 1
                            have hfz45_2 := blk_frozen BK199.out 2
                            have hfz45_3 := blk_frozen BK199.out 3
                            have hfz45_4 := blk_frozen BK199.out 4
                            go_wp2_with (first | ((with_reducible refine gate_builtin (b := .append) (xs := #[.tmp 64, .tmp 70]) rfl ?_); at_builtin; refine Kd.R_append k51 (w0 := w) w.heap.size rfl (.tmp 64) (.tmp 70) 30 51 (.agg #[(.string ⟨#[]⟩), (.string ⟨#[]⟩), (.string ⟨#[]⟩), (.int .i64 0), (.int .i64 0)]) 64 rfl Try.underlying30 info51 rfl (by decide) (by omega) (.slice Ao17 x3_1.length co17) x3_1 (⟨(⟨((rd_T65 l0 x4_1).f2.f0), ((rd_T65 l0 x4_1).f2.f1), ((rd_T65 l0 x4_1).f2.f2)⟩ : S25), ((rd_T65 l0 x4_1).f0), 0⟩ : S51) [.string ((rd_T65 l0 x4_1).f2.f0), .string ((rd_T65 l0 x4_1).f2.f1), .string ((rd_T65 l0 x4_1).f2.f2), .int .i64 ((rd_T65 l0 x4_1).f0), .int .i64 0] (fun _ => True) (fun _ => False) rfl rfl ?aP (fun _ hk => hk.elim) ?aF ?aO ?aB ?aS ?aL ?_; (case aP => exact k51_mkM _ _ _ (⟨(⟨((rd_T65 l0 x4_1).f2.f0), ((rd_T65 l0 x4_1).f2.f1), ((rd_T65 l0 x4_1).f2.f2)⟩ : S25), ((rd_T65 l0 x4_1).f0), 0⟩ : S51)); (case aB => exact (by repeat (first | (with_reducible first | exact HB.out | apply below_alloc | apply pw_below_drewN | apply below_drew1 | refine below_set ?_ GE199.out) | exact HB.out))); (case aF => exact (fun _ _ => trivial)); (case aO => exact (by (with_reducible repeat (first | apply Kd.R_alloc | apply Kd.R_drewN | apply Kd.R_drew)); exact HO_3.out)); (case aS => exact (below_size (by repeat (first | (with_reducible first | exact HB.out | apply below_alloc | apply pw_below_drewN | apply below_drew1 | refine below_set ?_ GE199.out) | exact HB.out)))); (case aL => have := LMc44.out; omega); intro v207 w46 ho hb hg hat; rw [← Ny206.out] at ho; have n0_ := Aside0.mk (blk_grown (g := gb199) (o := .cells #[.int .i64 ((rd_T65 l0 x4_1).f0), .bool ((rd_T65 l0 x4_1).f1), .string ((rd_T65 l0 x4_1).f2.f0), .string ((rd_T65 l0 x4_1).f2.f1), .string ((rd_T65 l0 x4_1).f2.f2)] 65 (0, 0)) (by (with_reducible repeat (first | refine blk_drewN ?_ _ | refine blk_drew ?_ | refine blk_alloc ?_ _)); exact BK199.out) hg (Kd.R_ne HO_3.out BK199.out (by decide))); have n1_ := Aside0.mk (hb); have n2_ := Aside0.mk (ho); clear BK199; clear HB; clear HO_3; have BK199 := n0_; have HB := n1_; have HO208 := n2_; clear n0_ n1_ n2_; clear ho hb hg hat))
                            go_roundg kj15
                            case measure => have := HK1.out; have := HK2.out; have := HJ15.out; omega
                            case rel => exact ⟨(y206), (wrap64 (x4_1 + 1)), (by first | rfl | (simp; done) | (simp [*]; done)), H', ⟨by have := HK1.out; have := HK2.out; have := HJ15.out; omega⟩, ⟨by (with_reducible repeat (first | apply Kd.R_alloc | apply Kd.R_drewN | apply Kd.R_drew)); exact HO208.out⟩, ⟨by repeat (first | (with_reducible first | exact HB.out | apply below_alloc | apply pw_below_drewN | apply below_drew1 | refine below_set ?_ GE199.out) | exact HB.out)⟩⟩
                          · rw [if_neg c44] at H
                            exact absurd H (by simp)
                        · rw [if_neg c43] at H
                          have c43b0 : decide (x6_2 < 0) = false := decide_eq_false c43
                          clear c43
                          have H' := Aside0.mk H
                          clear H
                          have hcz47_0 : wc.cell? ⟨gb199, 0, none⟩ = some (.int .i64 ((rd_T65 l0 x4_1).f0)) := (blk_cell BK199.out 0).trans rfl
                          have hcz47_1 : wc.cell? ⟨gb199, 1, none⟩ = some (.bool ((rd_T65 l0 x4_1).f1)) := (blk_cell BK199.out 1).trans rfl
                          have hcz47_2 : wc.cell? ⟨gb199, 2, none⟩ = some (.string ((rd_T65 l0 x4_1).f2.f0)) := (blk_cell BK199.out 2).trans rfl
                          have hcz47_3 : wc.cell? ⟨gb199, 3, none⟩ = some (.string ((rd_T65 l0 x4_1).f2.f1)) := (blk_cell BK199.out 3).trans rfl
                          have hcz47_4 : wc.cell? ⟨gb199, 4, none⟩ = some (.string ((rd_T65 l0 x4_1).f2.f2)) := (blk_cell BK199.out 4).trans rfl
                          have hfz47_0 := blk_frozen BK199.out 0
                          have hfz47_1 := blk_frozen BK199.out 1
                          have hfz47_2 := blk_frozen BK199.out 2
                          have hfz47_3 := blk_frozen BK199.out 3
                          have hfz47_4 := blk_frozen BK199.out 4
                          go_wp2
                          go_roundg kj15
                          case measure => have := HK1.out; have := HK2.out; have := HJ15.out; omega
                          case rel => exact ⟨(x3_1), (wrap64 (x4_1 + 1)), (by first | rfl | (simp; done) | (simp [*]; done)), H', ⟨by have := HK1.out; have := HK2.out; have := HJ15.out; omega⟩, ⟨by (with_reducible repeat (first | apply Kd.R_alloc | apply Kd.R_drewN | apply Kd.R_drew)); exact HO_3.out⟩, ⟨by repeat (first | (with_reducible first | exact HB.out | apply below_alloc | apply pw_below_drewN | apply below_drew1 | refine below_set ?_ GE199.out) | exact HB.out)⟩⟩
        · rw [if_neg c3] at H
          exact absurd H (by simp)
      · rw [if_neg c2] at H
        have c2b0 : decide (x4_1 < (l0.length : Int)) = false := decide_eq_false c2
        clear c2
        have H' := Aside0.mk H
        clear H
        go_wp2
        go_loopg [8, 9] k1 (fun kq v8 v9 w' => ∃ (x8_2 : List (S51)) (x9_2 : Int), v9 = .int .i64 x9_2 ∧ Aside0 (porterref22_Rows.l2 kq x3_1 x8_2 x9_2 = some r) ∧ Aside0 (kq ≤ k1) ∧ Aside0 (Kd.R k51 51 w' w.heap.size (fun k_ => some k_ ≠ (v8 : Value).ownBlock) u3 x3_1) ∧ Aside0 (Kd.R k51 51 w' w.heap.size (fun k_ => some k_ ≠ (u3 : Value).ownBlock) v8 x8_2) ∧ Aside0 (Below w.heap.size w w'))
        case atStart => exact ⟨(([] : List (S51))), (0), (by first | rfl | (simp; done) | (simp [*]; done)), H', ⟨Nat.le_refl _⟩, ⟨by (with_reducible repeat (first | apply Kd.R_alloc | apply Kd.R_drewN | apply Kd.R_drew)); exact Kd.R_mono HO_3.out (fun _ hk => (by simp [Value.ownBlock]))⟩, ⟨by first | exact Kd.R_nil _ _ _ _ _ | exact Kd.N_nil _ _ _ _ _ | exact Kd.V_nil _ _ _ _ _ | exact Kd.Q_nil _ _ _ _ _ | exact Kd.S_nil _ _ _ _ _⟩, ⟨by repeat (first | (with_reducible first | exact HB.out | apply below_alloc | apply pw_below_drewN | apply below_drew1) | exact HB.out)⟩⟩
        case round =>
          clear H'
          try clear c1
          try clear p1
          try clear q1
          try clear hx1
          try clear c2
          try clear c2b0
          try clear p2
          try clear q2
          try clear hx2
          try clear hf2
          try clear c3
          try clear c3b0
          try clear hx3
          try clear hf3
          try clear c4
          try clear c6
          try clear c6b0
          try clear p6
          try clear c7
          try clear c7b0
          try clear c8
          try clear c8b0
          try clear c8b1
          try clear c8b2
          try clear c9
          try clear c9b0
          try clear c9b1
          try clear c18
          try clear c18b0
          try clear p19
          try clear q19
          try clear hx19
          try clear p20
          try clear q20
          try clear hx20
          try clear c21
          try clear c22
          try clear c22b0
          try clear c23
          try clear c23b0
          try clear c24
          try clear p24
          try clear q24
          try clear hx24
          try clear hf24
          try clear c25
          try clear c25b0
          try clear c27
          try clear hx27
          try clear hf27
          try clear c30
          try clear c30b0
          try clear c31
          try clear c33
          try clear hx33
          try clear hf33
          try clear c38
          try clear hx38
          try clear hf38
          try clear c41
          try clear c41b0
          try clear c43
          try clear c43b0
          try clear c44
          try clear hcz19_0
          try clear hcz19_1
          try clear hcz19_2
          try clear hcz19_3
          try clear hcz19_4
          try clear hcz20_0
          try clear hcz20_1
          try clear hcz20_2
          try clear hcz20_3
          try clear hcz20_4
          try clear hcz26_0
          try clear hcz26_1
          try clear hcz26_2
          try clear hcz26_3
          try clear hcz26_4
          try clear hcz29_0
          try clear hcz29_1
          try clear hcz29_2
          try clear hcz29_3
          try clear hcz29_4
          try clear hcz32_0
          try clear hcz32_1
          try clear hcz32_2
          try clear hcz32_3
          try clear hcz32_4
          try clear hcz35_0
          try clear hcz35_1
          try clear hcz35_2
          try clear hcz35_3
          try clear hcz35_4
          try clear hcz37_0
          try clear hcz37_1
          try clear hcz37_2
          try clear hcz37_3
          try clear hcz37_4
          try clear hcz40_0
          try clear hcz40_1
          try clear hcz40_2
          try clear hcz40_3
          try clear hcz40_4
          try clear hcz42_0
          try clear hcz42_1
          try clear hcz42_2
          try clear hcz42_3
          try clear hcz42_4
          try clear hcz45_0
          try clear hcz45_1
          try clear hcz45_2
          try clear hcz45_3
          try clear hcz45_4
          try clear hcz47_0
          try clear hcz47_1
          try clear hcz47_2
          try clear hcz47_3
          try clear hcz47_4
          try clear hcz5_0
          try clear hcz5_1
          try clear hcz5_2
          try clear hcz5_3
          try clear hcz5_4
          try clear hfz19_0
          try clear hfz19_1
          try clear hfz19_2
          try clear hfz19_3
          try clear hfz19_4
          try clear hfz20_0
          try clear hfz20_1
          try clear hfz20_2
          try clear hfz20_3
          try clear hfz20_4
          try clear hfz26_0
          try clear hfz26_1
          try clear hfz26_2
          try clear hfz26_3
          try clear hfz26_4
          try clear hfz29_0
          try clear hfz29_1
          try clear hfz29_2
          try clear hfz29_3
          try clear hfz29_4
          try clear hfz32_0
          try clear hfz32_1
          try clear hfz32_2
          try clear hfz32_3
          try clear hfz32_4
          try clear hfz35_0
          try clear hfz35_1
          try clear hfz35_2
          try clear hfz35_3
          try clear hfz35_4
          try clear hfz37_0
          try clear hfz37_1
          try clear hfz37_2
          try clear hfz37_3
          try clear hfz37_4
          try clear hfz40_0
          try clear hfz40_1
          try clear hfz40_2
          try clear hfz40_3
          try clear hfz40_4
          try clear hfz42_0
          try clear hfz42_1
          try clear hfz42_2
          try clear hfz42_3
          try clear hfz42_4
          try clear hfz45_0
          try clear hfz45_1
          try clear hfz45_2
          try clear hfz45_3
          try clear hfz45_4
          try clear hfz47_0
          try clear hfz47_1
          try clear hfz47_2
          try clear hfz47_3
          try clear hfz47_4
          try clear hfz5_0
          try clear hfz5_1
          try clear hfz5_2
          try clear hfz5_3
          try clear hfz5_4
          try clear hx198_0
          try clear hx198_1
          try clear hx198_2
          try clear hx198_3
          try clear hx198_4
          try clear hx200_0
          try clear hx200_1
          try clear hx200_2
          try clear hx200_3
          try clear hx200_4
          try clear hx201_0
          try clear hx201_1
          try clear hx201_2
          try clear hx201_3
          try clear hx201_4
          try clear hx24_0
          try clear hx24_1
          try clear hx24_2
          try clear hx24_3
          try clear hx24_4
          try clear hx27_4
          try clear hx33_4
          try clear hx38_4
          try clear p1
          try clear p19
          try clear p198
          try clear p2
          try clear p20
          try clear p200
          try clear p201
          try clear p24
          try clear p6
          try clear q1
          try clear q19
          try clear q198
          try clear q2
          try clear q20
          try clear q200
          try clear q201
          try clear q24
          obtain ⟨x8_2, x9_2, rfl, HA, HK2, HO_3, HO_8, HB⟩ := hrel
          cases gk with
          | zero => exact absurd HA.out (by simp [porterref22_Rows.l2])
          | succ k2 =>
            have H := HA.out
            clear HA
            simp only [porterref22_Rows.l2] at H
            by_cases c48 : x9_2 < (x3_1.length : Int)
            · rw [if_pos c48] at H
              have c48b0 : decide (x9_2 < (x3_1.length : Int)) = true := decide_eq_true c48
              clear c48
              have H' := Aside0.mk H
              clear H
              obtain ⟨Ao49, co49, eo49⟩ := Kd.R_slice HO_3.out
              subst eo49
              obtain ⟨Ao50, co50, eo50⟩ := Kd.R_slice HO_8.out
              subst eo50
              go_wp2
              go_loopg [10] k2 (fun kq v10 w' => ∃ (x10_3 : Int), v10 = .int .i64 x10_3 ∧ Aside0 (porterref22_Rows.l3 kq x3_1 x8_2 x9_2 x10_3 = some r) ∧ Aside0 (kq ≤ k2) ∧ Aside0 (Kd.R k51 51 w' w.heap.size (fun k_ => some k_ ≠ ((.slice Ao50 x8_2.length co50) : Value).ownBlock) (.slice Ao49 x3_1.length co49) x3_1) ∧ Aside0 (Kd.R k51 51 w' w.heap.size (fun k_ => some k_ ≠ ((.slice Ao49 x3_1.length co49) : Value).ownBlock) (.slice Ao50 x8_2.length co50) x8_2) ∧ Aside0 (Below w.heap.size w w'))
              case atStart => exact ⟨((x8_2.length : Int)), (by first | rfl | (simp; done) | (simp [*]; done)), H', ⟨Nat.le_refl _⟩, ⟨by (with_reducible repeat (first | apply Kd.R_alloc | apply Kd.R_drewN | apply Kd.R_drew)); exact HO_3.out⟩, ⟨by (with_reducible repeat (first | apply Kd.R_alloc | apply Kd.R_drewN | apply Kd.R_drew)); exact HO_8.out⟩, ⟨by repeat (first | (with_reducible first | exact HB.out | apply below_alloc | apply pw_below_drewN | apply below_drew1) | exact HB.out)⟩⟩
              case round =>
                clear H'
                try clear c1
                try clear p1
                try clear q1
                try clear hx1
                try clear c2
                try clear c2b0
                try clear p2
                try clear q2
                try clear hx2
                try clear hf2
                try clear c3
                try clear c3b0
                try clear hx3
                try clear hf3
                try clear c4
                try clear c6
                try clear c6b0
                try clear p6
                try clear c7
                try clear c7b0
                try clear c8
                try clear c8b0
                try clear c8b1
                try clear c8b2
                try clear c9
                try clear c9b0
                try clear c9b1
                try clear c18
                try clear c18b0
                try clear p19
                try clear q19
                try clear hx19
                try clear p20
                try clear q20
                try clear hx20
                try clear c21
                try clear c22
                try clear c22b0
                try clear c23
                try clear c23b0
                try clear c24
                try clear p24
                try clear q24
                try clear hx24
                try clear hf24
                try clear c25
                try clear c25b0
                try clear c27
                try clear hx27
                try clear hf27
                try clear c30
                try clear c30b0
                try clear c31
                try clear c33
                try clear hx33
                try clear hf33
                try clear c38
                try clear hx38
                try clear hf38
                try clear c41
                try clear c41b0
                try clear c43
                try clear c43b0
                try clear c44
                try clear c48
                try clear c48b0
                try clear hcz19_0
                try clear hcz19_1
                try clear hcz19_2
                try clear hcz19_3
                try clear hcz19_4
                try clear hcz20_0
                try clear hcz20_1
                try clear hcz20_2
                try clear hcz20_3
                try clear hcz20_4
                try clear hcz26_0
                try clear hcz26_1
                try clear hcz26_2
                try clear hcz26_3
                try clear hcz26_4
                try clear hcz29_0
                try clear hcz29_1
                try clear hcz29_2
                try clear hcz29_3
                try clear hcz29_4
                try clear hcz32_0
                try clear hcz32_1
                try clear hcz32_2
                try clear hcz32_3
                try clear hcz32_4
                try clear hcz35_0
                try clear hcz35_1
                try clear hcz35_2
                try clear hcz35_3
                try clear hcz35_4
                try clear hcz37_0
                try clear hcz37_1
                try clear hcz37_2
                try clear hcz37_3
                try clear hcz37_4
                try clear hcz40_0
                try clear hcz40_1
                try clear hcz40_2
                try clear hcz40_3
                try clear hcz40_4
                try clear hcz42_0
                try clear hcz42_1
                try clear hcz42_2
                try clear hcz42_3
                try clear hcz42_4
                try clear hcz45_0
                try clear hcz45_1
                try clear hcz45_2
                try clear hcz45_3
                try clear hcz45_4
                try clear hcz47_0
                try clear hcz47_1
                try clear hcz47_2
                try clear hcz47_3
                try clear hcz47_4
                try clear hcz5_0
                try clear hcz5_1
                try clear hcz5_2
                try clear hcz5_3
                try clear hcz5_4
                try clear hfz19_0
                try clear hfz19_1
                try clear hfz19_2
                try clear hfz19_3
                try clear hfz19_4
                try clear hfz20_0
                try clear hfz20_1
                try clear hfz20_2
                try clear hfz20_3
                try clear hfz20_4
                try clear hfz26_0
                try clear hfz26_1
                try clear hfz26_2
                try clear hfz26_3
                try clear hfz26_4
                try clear hfz29_0
                try clear hfz29_1
                try clear hfz29_2
                try clear hfz29_3
                try clear hfz29_4
                try clear hfz32_0
                try clear hfz32_1
                try clear hfz32_2
                try clear hfz32_3
                try clear hfz32_4
                try clear hfz35_0
                try clear hfz35_1
                try clear hfz35_2
                try clear hfz35_3
                try clear hfz35_4
                try clear hfz37_0
                try clear hfz37_1
                try clear hfz37_2
                try clear hfz37_3
                try clear hfz37_4
                try clear hfz40_0
                try clear hfz40_1
                try clear hfz40_2
                try clear hfz40_3
                try clear hfz40_4
                try clear hfz42_0
                try clear hfz42_1
                try clear hfz42_2
                try clear hfz42_3
                try clear hfz42_4
                try clear hfz45_0
                try clear hfz45_1
                try clear hfz45_2
                try clear hfz45_3
                try clear hfz45_4
                try clear hfz47_0
                try clear hfz47_1
                try clear hfz47_2
                try clear hfz47_3
                try clear hfz47_4
                try clear hfz5_0
                try clear hfz5_1
                try clear hfz5_2
                try clear hfz5_3
                try clear hfz5_4
                try clear hx198_0
                try clear hx198_1
                try clear hx198_2
                try clear hx198_3
                try clear hx198_4
                try clear hx200_0
                try clear hx200_1
                try clear hx200_2
                try clear hx200_3
                try clear hx200_4
                try clear hx201_0
                try clear hx201_1
                try clear hx201_2
                try clear hx201_3
                try clear hx201_4
                try clear hx24_0
                try clear hx24_1
                try clear hx24_2
                try clear hx24_3
                try clear hx24_4
                try clear hx27_4
                try clear hx33_4
                try clear hx38_4
                try clear p1
                try clear p19
                try clear p198
                try clear p2
                try clear p20
                try clear p200
                try clear p201
                try clear p24
                try clear p6
                try clear q1
                try clear q19
                try clear q198
                try clear q2
                try clear q20
                try clear q200
                try clear q201
                try clear q24
                obtain ⟨x10_3, rfl, HA, HK3, HO_3, HO_8, HB⟩ := hrel
                cases gk with
                | zero => exact absurd HA.out (by simp [porterref22_Rows.l3])
                | succ k3 =>
                  have H := HA.out
                  clear HA
                  simp only [porterref22_Rows.l3] at H
                  by_cases c51 : x10_3 > 0
                  · rw [if_pos c51] at H
                    have c51b0 : decide (0 < x10_3) = true := decide_eq_true c51
                    clear c51
                    by_cases c52 : 0 ≤ x9_2
                    · rw [if_pos c52] at H
                      have c52b0 : decide (0 ≤ x9_2) = true := decide_eq_true c52
                      clear c52
                      by_cases c53 : x9_2 < (x3_1.length : Int)
                      · rw [if_pos c53] at H
                        have c53b0 : decide (x9_2 < (x3_1.length : Int)) = true := decide_eq_true c53
                        clear c53
                        obtain ⟨ji54, hji54⟩ : ∃ j_ : Int, (wrap64 (x10_3 - 1)) = j_ := ⟨_, rfl⟩
                        replace H : (if 0 ≤ (ji54) then (if (ji54) < (x8_2.length : Int) then ((porterref07_Before.f ((rd_T51 x3_1 x9_2).f0.f0) ((rd_T51 x3_1 x9_2).f0.f1) ((rd_T51 x3_1 x9_2).f0.f2) ((rd_T51 x3_1 x9_2).f1) ((rd_T51 x3_1 x9_2).f2) ((rd_T51 x8_2 (ji54)).f0.f0) ((rd_T51 x8_2 (ji54)).f0.f1) ((rd_T51 x8_2 (ji54)).f0.f2) ((rd_T51 x8_2 (ji54)).f1) ((rd_T51 x8_2 (ji54)).f2)).bind fun t211 => (if t211 = true then (porterref22_Rows.l3 k3 x3_1 x8_2 x9_2 ji54) else ((some (([] : List (S51)) : List (S51))).bind fun y212 => (if 0 ≤ x10_3 then (if x10_3 ≤ (x8_2.length : Int) then ((some (x8_2.take (x10_3 : Int).toNat : List (S51))).bind fun y215 => (if y212.length + y215.length < 2199023255552 then ((some (y212 ++ y215 : List (S51))).bind fun y219 => (if y219.length < 2199023255552 then ((some (y219 ++ [(⟨(⟨(rd_T51 x3_1 x9_2).f0.f0, (rd_T51 x3_1 x9_2).f0.f1, (rd_T51 x3_1 x9_2).f0.f2⟩ : S25), (rd_T51 x3_1 x9_2).f1, (rd_T51 x3_1 x9_2).f2⟩ : S51)] : List (S51))).bind fun y223 => ((some (x8_2.drop (x10_3 : Int).toNat : List (S51))).bind fun y226 => (if y223.length + y226.length < 2199023255552 then (porterref22_Rows.l2 k3 x3_1 (y223 ++ y226) (wrap64 (x9_2 + 1))) else (none)))) else (none))) else (none))) else (none)) else (none))))) else (none)) else (none)) = some r := by first | (rw [hji54] at H; exact H) | (simp only [hji54] at H ⊢; exact H)
                        have hji54w : (IntKind.i64.wrap (x10_3 - 1)) = ji54 := (i64_w _).trans hji54
                        by_cases c55 : 0 ≤ (ji54)
                        · rw [if_pos c55] at H
                          have c55b0 : decide (0 ≤ (ji54)) = true := decide_eq_true c55
                          clear c55
                          by_cases c56 : (ji54) < (x8_2.length : Int)
                          · rw [if_pos c56] at H
                            have c56b0 : decide ((ji54) < (x8_2.length : Int)) = true := decide_eq_true c56
                            clear c56
                            replace H := Option.bind_eq_some_iff.mp H
                            obtain ⟨t211, A570, H⟩ := H
                            replace H : (if t211 = true then (porterref22_Rows.l3 k3 x3_1 x8_2 x9_2 ji54) else ((some (([] : List (S51)) : List (S51))).bind fun y212 => (if 0 ≤ x10_3 then (if x10_3 ≤ (x8_2.length : Int) then ((some (x8_2.take (x10_3 : Int).toNat : List (S51))).bind fun y215 => (if y212.length + y215.length < 2199023255552 then ((some (y212 ++ y215 : List (S51))).bind fun y219 => (if y219.length < 2199023255552 then ((some (y219 ++ [(⟨(⟨(rd_T51 x3_1 x9_2).f0.f0, (rd_T51 x3_1 x9_2).f0.f1, (rd_T51 x3_1 x9_2).f0.f2⟩ : S25), (rd_T51 x3_1 x9_2).f1, (rd_T51 x3_1 x9_2).f2⟩ : S51)] : List (S51))).bind fun y223 => ((some (x8_2.drop (x10_3 : Int).toNat : List (S51))).bind fun y226 => (if y223.length + y226.length < 2199023255552 then (porterref22_Rows.l2 k3 x3_1 (y223 ++ y226) (wrap64 (x9_2 + 1))) else (none)))) else (none))) else (none))) else (none)) else (none)))) = some r := H
                            have A57 := Aside0.mk A570
                            clear A570
                            by_cases c58 : t211 = true
                            · subst c58
                              have H1 : (porterref22_Rows.l3 k3 x3_1 x8_2 x9_2 ji54) = some r := by rw [if_pos rfl] at H; exact H
                              clear H
                              have H := H1
                              clear H1
                              have H' := Aside0.mk H
                              clear H
                              try go_wp2
                              have n0_ := Aside0.mk (Kd.R_drew HO_3.out)
                              have n1_ := Aside0.mk (Kd.R_drew HO_8.out)
                              have n2_ := Aside0.mk (below_drew1 HB.out)
                              clear HO_3
                              clear HO_8
                              clear HB
                              have HO_3 := n0_
                              have HO_8 := n1_
                              have HB := n2_
                              clear n0_ n1_ n2_
                              have p209 : 0 ≤ (x9_2 : Int) := of_decide_eq_true (by first | (with_reducible assumption) | assumption)
                              have q209 : x9_2 < (x3_1.length : Int) := of_decide_eq_true (by first | (with_reducible assumption) | assumption)
                              obtain ⟨ad209, e209, hx209_0, hx209_1, hx209_2, hx209_3, hx209_4⟩ := at_T51 (Kd.R_reads' HO_3.out).2.2 x9_2 p209 q209
                              cases e209
                              replace p209 := eq_true p209
                              replace q209 := eq_true q209
                              have p210 : 0 ≤ ((ji54) : Int) := of_decide_eq_true (by first | (with_reducible assumption) | assumption)
                              have q210 : (ji54) < (x8_2.length : Int) := of_decide_eq_true (by first | (with_reducible assumption) | assumption)
                              obtain ⟨ad210, e210, hx210_0, hx210_1, hx210_2, hx210_3, hx210_4⟩ := at_T51 (Kd.R_reads' HO_8.out).2.2 (ji54) p210 q210
                              cases e210
                              replace p210 := eq_true p210
                              replace q210 := eq_true q210
                              refine start_ (n := 14) (S := fun w' => w'.cell? (ad209.add ((x9_2).toNat * 5)) = some (.string ((rd_T51 x3_1 x9_2).f0.f0)) ∧ w'.cell? ⟨(ad209.add ((x9_2).toNat * 5)).block, (ad209.add ((x9_2).toNat * 5)).off + 1, none⟩ = some (.string ((rd_T51 x3_1 x9_2).f0.f1)) ∧ w'.cell? ⟨(ad209.add ((x9_2).toNat * 5)).block, (ad209.add ((x9_2).toNat * 5)).off + 2, none⟩ = some (.string ((rd_T51 x3_1 x9_2).f0.f2)) ∧ w'.cell? ⟨(ad209.add ((x9_2).toNat * 5)).block, (ad209.add ((x9_2).toNat * 5)).off + 3, none⟩ = some (.int .i64 ((rd_T51 x3_1 x9_2).f1)) ∧ w'.cell? ⟨(ad209.add ((x9_2).toNat * 5)).block, (ad209.add ((x9_2).toNat * 5)).off + 4, none⟩ = some (.int .i64 ((rd_T51 x3_1 x9_2).f2)) ∧ w'.cell? (ad210.add (((ji54)).toNat * 5)) = some (.string ((rd_T51 x8_2 (ji54)).f0.f0)) ∧ w'.cell? ⟨(ad210.add (((ji54)).toNat * 5)).block, (ad210.add (((ji54)).toNat * 5)).off + 1, none⟩ = some (.string ((rd_T51 x8_2 (ji54)).f0.f1)) ∧ w'.cell? ⟨(ad210.add (((ji54)).toNat * 5)).block, (ad210.add (((ji54)).toNat * 5)).off + 2, none⟩ = some (.string ((rd_T51 x8_2 (ji54)).f0.f2)) ∧ w'.cell? ⟨(ad210.add (((ji54)).toNat * 5)).block, (ad210.add (((ji54)).toNat * 5)).off + 3, none⟩ = some (.int .i64 ((rd_T51 x8_2 (ji54)).f1)) ∧ w'.cell? ⟨(ad210.add (((ji54)).toNat * 5)).block, (ad210.add (((ji54)).toNat * 5)).off + 4, none⟩ = some (.int .i64 ((rd_T51 x8_2 (ji54)).f2))) (ds := []) #[false, false, false, false, false, false, false, false, false, false, false, false, false, false] (by kernel_rfl) rfl rfl ⟨hx209_0, hx209_1, hx209_2, hx209_3, hx209_4, hx210_0, hx210_1, hx210_2, hx210_3, hx210_4⟩ (fun hHeld => ?_); refine with_tabW porterref22_Rows.tab21 porterref22_Rows.bits21 (fun HT_ HW_ => ?_)
                              generalize wr.drew = w59 at HO_3 HO_8 HB hx209_0 hx209_1 hx209_2 hx209_3 hx209_4 hx210_0 hx210_1 hx210_2 hx210_3 hx210_4 hHeld ⊢
                              refine pure_ (i := 0) (N := some 80) (v := ?_) (a' := ?_) #[true, false, false, false, false, false, false, false, false, false, false, false, false, false] rfl rfl (any_of HT_.out (by kernel_rfl)) (fun _ _ _ h => h) (Or.inl ⟨by rfl, ?_⟩) ?_ ?_
                              rotate_left
                              · intro w'
                                go_simp
                                with_reducible rfl
                              rotate_left
                              · simp only [Act.put, List.setIfInBounds_toArray, List.set_cons_zero, List.set_cons_succ, i64_w, i32_w]
                                rfl
                              refine pure_ (i := 1) (N := some 81) (v := ?_) (a' := ?_) #[true, true, false, false, false, false, false, false, false, false, false, false, false, false] rfl rfl (any_of HT_.out (by kernel_rfl)) (fun _ _ _ h => h) (Or.inl ⟨by rfl, ?_⟩) ?_ ?_
                              rotate_left
                              · intro w'
                                go_simp
                                with_reducible rfl
                              rotate_left
                              · simp only [Act.put, List.setIfInBounds_toArray, List.set_cons_zero, List.set_cons_succ, i64_w, i32_w]
                                rfl
                              refine pure_ (i := 2) (N := some 82) (v := ?_) (a' := ?_) #[true, true, true, false, false, false, false, false, false, false, false, false, false, false] rfl rfl (any_of HT_.out (by kernel_rfl)) (fun _ _ _ h => h) (Or.inl ⟨by rfl, ?_⟩) ?_ ?_
                              rotate_left
                              · intro w'
                                go_simp
                                with_reducible rfl
                              rotate_left
                              · simp only [Act.put, List.setIfInBounds_toArray, List.set_cons_zero, List.set_cons_succ, i64_w, i32_w]
                                rfl
                              refine pure_ (i := 3) (N := some 83) (v := ?_) (a' := ?_) #[true, true, true, true, false, false, false, false, false, false, false, false, false, false] rfl rfl (any_of HT_.out (by kernel_rfl)) (fun _ _ _ h => h) (Or.inl ⟨by rfl, ?_⟩) ?_ ?_
                              rotate_left
                              · intro w'
                                go_simp
                                with_reducible rfl
                              rotate_left
                              · simp only [Act.put, List.setIfInBounds_toArray, List.set_cons_zero, List.set_cons_succ, i64_w, i32_w]
                                rfl
                              refine pure_ (i := 4) (N := some 84) (v := ?_) (a' := ?_) #[true, true, true, true, true, false, false, false, false, false, false, false, false, false] rfl rfl (any_of HT_.out (by kernel_rfl)) (fun _ _ _ h => h) (Or.inl ⟨by rfl, ?_⟩) ?_ ?_
                              rotate_left
                              · intro w'
                                go_simp
                                with_reducible rfl
                              rotate_left
                              · simp only [Act.put, List.setIfInBounds_toArray, List.set_cons_zero, List.set_cons_succ, i64_w, i32_w]
                                rfl
                              refine pure_ (i := 5) (N := some 85) (v := ?_) (a' := ?_) #[true, true, true, true, true, true, false, false, false, false, false, false, false, false] rfl rfl (any_of HT_.out (by kernel_rfl)) (fun _ _ _ h => h) (Or.inl ⟨by rfl, ?_⟩) ?_ ?_
                              rotate_left
                              · intro w'
                                go_simp
                                with_reducible rfl
                              rotate_left
                              · simp only [Act.put, List.setIfInBounds_toArray, List.set_cons_zero, List.set_cons_succ, i64_w, i32_w]
                                rfl
                              refine pure_ (i := 7) (N := some 87) (v := ?_) (a' := ?_) #[true, true, true, true, true, true, false, true, false, false, false, false, false, false] rfl rfl (any_of HT_.out (by kernel_rfl)) (fun _ _ _ h => h) (Or.inl ⟨by rfl, ?_⟩) ?_ ?_
                              rotate_left
                              · intro w'
                                go_simp
                                with_reducible rfl
                              rotate_left
                              · simp only [Act.put, List.setIfInBounds_toArray, List.set_cons_zero, List.set_cons_succ, i64_w, i32_w]
                                rfl
                              refine pure_ (i := 8) (N := some 88) (v := ?_) (a' := ?_) #[true, true, true, true, true, true, false, true, true, false, false, false, false, false] rfl rfl (any_of HT_.out (by kernel_rfl)) (fun _ _ _ h => h) (Or.inl ⟨by rfl, ?_⟩) ?_ ?_
                              rotate_left
                              · intro w'
                                go_simp
                                with_reducible rfl
                              rotate_left
                              · simp only [Act.put, List.setIfInBounds_toArray, List.set_cons_zero, List.set_cons_succ, i64_w, i32_w]
                                rfl
                              refine pure_ (i := 9) (N := some 89) (v := ?_) (a' := ?_) #[true, true, true, true, true, true, false, true, true, true, false, false, false, false] rfl rfl (any_of HT_.out (by kernel_rfl)) (fun _ _ _ h => h) (Or.inl ⟨by rfl, ?_⟩) ?_ ?_
                              rotate_left
                              · intro w'
                                go_simp
                                with_reducible rfl
                              rotate_left
                              · simp only [Act.put, List.setIfInBounds_toArray, List.set_cons_zero, List.set_cons_succ, i64_w, i32_w]
                                rfl
                              refine pure_ (i := 10) (N := some 90) (v := ?_) (a' := ?_) #[true, true, true, true, true, true, false, true, true, true, true, false, false, false] rfl rfl (any_of HT_.out (by kernel_rfl)) (fun _ _ _ h => h) (Or.inl ⟨by rfl, ?_⟩) ?_ ?_
                              rotate_left
                              · intro w'
                                go_simp
                                with_reducible rfl
                              rotate_left
                              · simp only [Act.put, List.setIfInBounds_toArray, List.set_cons_zero, List.set_cons_succ, i64_w, i32_w]
                                rfl
                              refine take_ (i := 6) (N := some 86) (v := ?_) (a' := ?_) #[true, true, true, true, true, true, true, true, true, true, true, false, false, false] rfl rfl (take_ofW HT_.out HW_.out (by kernel_rfl)) (fun _ _ _ h => h) (Or.inl ⟨by rfl, ?_⟩) hHeld ?_ ?_
                              rotate_left
                              · rintro w' ⟨s0, s1, s2, s3, s4, s5, s6, s7, s8, s9⟩
                                go_simp
                                with_reducible rfl
                              rotate_left
                              · simp only [Act.put, List.setIfInBounds_toArray, List.set_cons_zero, List.set_cons_succ, i64_w, i32_w]
                                rfl
                              refine take_ (i := 11) (N := some 91) (v := ?_) (a' := ?_) #[true, true, true, true, true, true, true, true, true, true, true, true, false, false] rfl rfl (take_ofW HT_.out HW_.out (by kernel_rfl)) (fun _ _ _ h => h) (Or.inl ⟨by rfl, ?_⟩) hHeld ?_ ?_
                              rotate_left
                              · rintro w' ⟨s0, s1, s2, s3, s4, s5, s6, s7, s8, s9⟩
                                go_simp
                                with_reducible rfl
                              rotate_left
                              · simp only [Act.put, List.setIfInBounds_toArray, List.set_cons_zero, List.set_cons_succ, i64_w, i32_w]
                                rfl
                              refine one_ (i := 12) (N := some 92) #[true, true, true, true, true, true, true, true, true, true, true, true, true, false] rfl rfl (one_of HT_.out (by kernel_rfl)) (by decide) (fun K hK => ?_)
                              refine goes_ Try.func31 (by kernel_rfl) rfl #[.agg #[.string ((rd_T51 x3_1 x9_2).f0.f0), .string ((rd_T51 x3_1 x9_2).f0.f1), .string ((rd_T51 x3_1 x9_2).f0.f2), .int .i64 ((rd_T51 x3_1 x9_2).f1), .int .i64 ((rd_T51 x3_1 x9_2).f2)], .agg #[.string ((rd_T51 x8_2 (ji54)).f0.f0), .string ((rd_T51 x8_2 (ji54)).f0.f1), .string ((rd_T51 x8_2 (ji54)).f0.f2), .int .i64 ((rd_T51 x8_2 (ji54)).f1), .int .i64 ((rd_T51 x8_2 (ji54)).f2)]] (by rfl) rfl rfl (by (try simp only [List.map_toArray, List.map_cons, List.map_nil]); first | done | (simp only [hji54]; rfl) | rfl | (simp only [List.length_drop, List.length_take]; rfl)) ?_
                              with_reducible refine (porterref07_Before.calls ((rd_T51 x3_1 x9_2).f0.f0) ((rd_T51 x3_1 x9_2).f0.f1) ((rd_T51 x3_1 x9_2).f0.f2) ((rd_T51 x3_1 x9_2).f1) ((rd_T51 x3_1 x9_2).f2) ((rd_T51 x8_2 (ji54)).f0.f0) ((rd_T51 x8_2 (ji54)).f0.f1) ((rd_T51 x8_2 (ji54)).f0.f2) ((rd_T51 x8_2 (ji54)).f1) ((rd_T51 x8_2 (ji54)).f2) true _ A57.out).mono ?_
                              rintro e w60 ⟨rfl, hb⟩
                              have HS0_ := (hb.cell (World.block_lt_of_cell? _ _ (hHeld.1))).trans (hHeld.1)
                              have HS1_ := (hb.cell (World.block_lt_of_cell? _ _ (hHeld.2.1))).trans (hHeld.2.1)
                              have HS2_ := (hb.cell (World.block_lt_of_cell? _ _ (hHeld.2.2.1))).trans (hHeld.2.2.1)
                              have HS3_ := (hb.cell (World.block_lt_of_cell? _ _ (hHeld.2.2.2.1))).trans (hHeld.2.2.2.1)
                              have HS4_ := (hb.cell (World.block_lt_of_cell? _ _ (hHeld.2.2.2.2.1))).trans (hHeld.2.2.2.2.1)
                              have HS5_ := (hb.cell (World.block_lt_of_cell? _ _ (hHeld.2.2.2.2.2.1))).trans (hHeld.2.2.2.2.2.1)
                              have HS6_ := (hb.cell (World.block_lt_of_cell? _ _ (hHeld.2.2.2.2.2.2.1))).trans (hHeld.2.2.2.2.2.2.1)
                              have HS7_ := (hb.cell (World.block_lt_of_cell? _ _ (hHeld.2.2.2.2.2.2.2.1))).trans (hHeld.2.2.2.2.2.2.2.1)
                              have HS8_ := (hb.cell (World.block_lt_of_cell? _ _ (hHeld.2.2.2.2.2.2.2.2.1))).trans (hHeld.2.2.2.2.2.2.2.2.1)
                              have HS9_ := (hb.cell (World.block_lt_of_cell? _ _ (hHeld.2.2.2.2.2.2.2.2.2))).trans (hHeld.2.2.2.2.2.2.2.2.2)
                              refine ⟨_, rfl, ?_⟩
                              have n0_ := Aside0.mk (Kd.R_below (by (with_reducible repeat (first | apply Kd.R_alloc | apply Kd.R_drewN | apply Kd.R_drew)); exact HO_3.out) hb)
                              have n1_ := Aside0.mk (Kd.R_below (by (with_reducible repeat (first | apply Kd.R_alloc | apply Kd.R_drewN | apply Kd.R_drew)); exact HO_8.out) hb)
                              have n2_ := Aside0.mk (below_step (by repeat (first | (with_reducible first | exact HB.out | apply below_alloc | apply pw_below_drewN | apply below_drew1) | exact HB.out)) hb)
                              clear HO_3
                              clear HO_8
                              clear HB
                              have HO_3 := n0_
                              have HO_8 := n1_
                              have HB := n2_
                              clear n0_ n1_ n2_
                              (try clear hb)
                              (try clear hb2)
                              (try clear hk)
                              (try clear hi)
                              refine hK.out _ _ ⟨HS0_, HS1_, HS2_, HS3_, HS4_, HS5_, HS6_, HS7_, HS8_, HS9_⟩ (fun hHeld => ?_)
                              clear hK K
                              refine norm_ (a' := ?_) ?_ ?_
                              rotate_left
                              · show Act.put _ (some 92) _ = _
                                simp only [Act.put, List.setIfInBounds_toArray, List.set_cons_zero, List.set_cons_succ, i64_w, i32_w]
                                rfl
                              refine pure_ (i := 13) (N := some 93) (v := ?_) (a' := ?_) #[true, true, true, true, true, true, true, true, true, true, true, true, true, true] rfl rfl (any_of HT_.out (by kernel_rfl)) (fun _ _ _ h => h) (Or.inl ⟨by rfl, ?_⟩) ?_ ?_
                              rotate_left
                              · intro w'
                                go_simp
                                with_reducible rfl
                              rotate_left
                              · simp only [Act.put, List.setIfInBounds_toArray, List.set_cons_zero, List.set_cons_succ, i64_w, i32_w]
                                rfl
                              refine done_ (done_of HT_.out (by kernel_rfl)) ?_
                              try go_wp2
                              go_roundg k3
                              case measure => have := HK1.out; have := HK2.out; have := HK3.out; omega
                              case rel => exact ⟨(ji54), (by first | rfl | (simp; done) | (simp only [← hji54] <;> (first | rfl | simp)) | (simp [*]; done)), H', ⟨by have := HK1.out; have := HK2.out; have := HK3.out; omega⟩, ⟨by (with_reducible repeat (first | apply Kd.R_alloc | apply Kd.R_drewN | apply Kd.R_drew)); exact HO_3.out⟩, ⟨by (with_reducible repeat (first | apply Kd.R_alloc | apply Kd.R_drewN | apply Kd.R_drew)); exact HO_8.out⟩, ⟨by repeat (first | (with_reducible first | exact HB.out | apply below_alloc | apply pw_below_drewN | apply below_drew1) | exact HB.out)⟩⟩
                            · replace c58 := Bool.eq_false_iff.mpr c58
                              subst c58
                              have H1 : ((some (([] : List (S51)) : List (S51))).bind fun y212 => (if 0 ≤ x10_3 then (if x10_3 ≤ (x8_2.length : Int) then ((some (x8_2.take (x10_3 : Int).toNat : List (S51))).bind fun y215 => (if y212.length + y215.length < 2199023255552 then ((some (y212 ++ y215 : List (S51))).bind fun y219 => (if y219.length < 2199023255552 then ((some (y219 ++ [(⟨(⟨(rd_T51 x3_1 x9_2).f0.f0, (rd_T51 x3_1 x9_2).f0.f1, (rd_T51 x3_1 x9_2).f0.f2⟩ : S25), (rd_T51 x3_1 x9_2).f1, (rd_T51 x3_1 x9_2).f2⟩ : S51)] : List (S51))).bind fun y223 => ((some (x8_2.drop (x10_3 : Int).toNat : List (S51))).bind fun y226 => (if y223.length + y226.length < 2199023255552 then (porterref22_Rows.l2 k3 x3_1 (y223 ++ y226) (wrap64 (x9_2 + 1))) else (none)))) else (none))) else (none))) else (none)) else (none))) = some r := by rw [if_neg (show ¬ (false = true) by decide)] at H; exact H
                              clear H
                              have H := H1
                              clear H1
                              obtain ⟨y212, hy212⟩ : ∃ y_ : List (S51), y_ = (([] : List (S51))) := ⟨_, rfl⟩
                              replace H : (if 0 ≤ x10_3 then (if x10_3 ≤ (x8_2.length : Int) then ((some (x8_2.take (x10_3 : Int).toNat : List (S51))).bind fun y215 => (if y212.length + y215.length < 2199023255552 then ((some (y212 ++ y215 : List (S51))).bind fun y219 => (if y219.length < 2199023255552 then ((some (y219 ++ [(⟨(⟨(rd_T51 x3_1 x9_2).f0.f0, (rd_T51 x3_1 x9_2).f0.f1, (rd_T51 x3_1 x9_2).f0.f2⟩ : S25), (rd_T51 x3_1 x9_2).f1, (rd_T51 x3_1 x9_2).f2⟩ : S51)] : List (S51))).bind fun y223 => ((some (x8_2.drop (x10_3 : Int).toNat : List (S51))).bind fun y226 => (if y223.length + y226.length < 2199023255552 then (porterref22_Rows.l2 k3 x3_1 (y223 ++ y226) (wrap64 (x9_2 + 1))) else (none)))) else (none))) else (none))) else (none)) else (none)) = some r := by first | (rw [hy212]; with_reducible exact H) | (have H2_ := (Option.bind_some _ _).symm.trans H; rw [hy212]; with_reducible exact H2_) | (have H2_ := (Option.bind_some _ _).symm.trans H; with_reducible exact H2_) | with_reducible exact H | (rw [hy212]; exact H) | exact H
                              have Ny212 := Aside0.mk hy212
                              clear hy212
                              by_cases c61 : 0 ≤ x10_3
                              · rw [if_pos c61] at H
                                have c61b0 := eq_true c61
                                have c61b1 : decide (0 ≤ x10_3) = true := decide_eq_true c61
                                clear c61
                                by_cases c62 : x10_3 ≤ (x8_2.length : Int)
                                · rw [if_pos c62] at H
                                  have c62b0 := eq_true c62
                                  have c62b1 : decide (x10_3 ≤ (x8_2.length : Int)) = true := decide_eq_true c62
                                  clear c62
                                  obtain ⟨y215, hy215⟩ : ∃ y_ : List (S51), y_ = (x8_2.take (x10_3 : Int).toNat) := ⟨_, rfl⟩
                                  replace H : (if y212.length + y215.length < 2199023255552 then ((some (y212 ++ y215 : List (S51))).bind fun y219 => (if y219.length < 2199023255552 then ((some (y219 ++ [(⟨(⟨(rd_T51 x3_1 x9_2).f0.f0, (rd_T51 x3_1 x9_2).f0.f1, (rd_T51 x3_1 x9_2).f0.f2⟩ : S25), (rd_T51 x3_1 x9_2).f1, (rd_T51 x3_1 x9_2).f2⟩ : S51)] : List (S51))).bind fun y223 => ((some (x8_2.drop (x10_3 : Int).toNat : List (S51))).bind fun y226 => (if y223.length + y226.length < 2199023255552 then (porterref22_Rows.l2 k3 x3_1 (y223 ++ y226) (wrap64 (x9_2 + 1))) else (none)))) else (none))) else (none)) = some r := by first | (rw [hy215]; with_reducible exact H) | (have H2_ := (Option.bind_some _ _).symm.trans H; rw [hy215]; with_reducible exact H2_) | (have H2_ := (Option.bind_some _ _).symm.trans H; with_reducible exact H2_) | with_reducible exact H | (rw [hy215]; exact H) | exact H
                                  have Ny215 := Aside0.mk hy215
                                  clear hy215
                                  by_cases c63 : y212.length + y215.length < 2199023255552
                                  · rw [if_pos c63] at H
                                    have LMc63 := Aside0.mk c63
                                    clear c63
                                    obtain ⟨y219, hy219⟩ : ∃ y_ : List (S51), y_ = (y212 ++ y215) := ⟨_, rfl⟩
                                    replace H : (if y219.length < 2199023255552 then ((some (y219 ++ [(⟨(⟨(rd_T51 x3_1 x9_2).f0.f0, (rd_T51 x3_1 x9_2).f0.f1, (rd_T51 x3_1 x9_2).f0.f2⟩ : S25), (rd_T51 x3_1 x9_2).f1, (rd_T51 x3_1 x9_2).f2⟩ : S51)] : List (S51))).bind fun y223 => ((some (x8_2.drop (x10_3 : Int).toNat : List (S51))).bind fun y226 => (if y223.length + y226.length < 2199023255552 then (porterref22_Rows.l2 k3 x3_1 (y223 ++ y226) (wrap64 (x9_2 + 1))) else (none)))) else (none)) = some r := by first | (rw [hy219]; with_reducible exact H) | (have H2_ := (Option.bind_some _ _).symm.trans H; rw [hy219]; with_reducible exact H2_) | (have H2_ := (Option.bind_some _ _).symm.trans H; with_reducible exact H2_) | with_reducible exact H | (rw [hy219]; exact H) | exact H
                                    have Ny219 := Aside0.mk hy219
                                    clear hy219
                                    by_cases c64 : y219.length < 2199023255552
                                    · rw [if_pos c64] at H
                                      have LMc64 := Aside0.mk c64
                                      clear c64
                                      obtain ⟨y223, hy223⟩ : ∃ y_ : List (S51), y_ = (y219 ++ [(⟨(⟨(rd_T51 x3_1 x9_2).f0.f0, (rd_T51 x3_1 x9_2).f0.f1, (rd_T51 x3_1 x9_2).f0.f2⟩ : S25), (rd_T51 x3_1 x9_2).f1, (rd_T51 x3_1 x9_2).f2⟩ : S51)]) := ⟨_, rfl⟩
                                      replace H : ((some (x8_2.drop (x10_3 : Int).toNat : List (S51))).bind fun y226 => (if y223.length + y226.length < 2199023255552 then (porterref22_Rows.l2 k3 x3_1 (y223 ++ y226) (wrap64 (x9_2 + 1))) else (none))) = some r := by first | (rw [hy223]; with_reducible exact H) | (have H2_ := (Option.bind_some _ _).symm.trans H; rw [hy223]; with_reducible exact H2_) | (have H2_ := (Option.bind_some _ _).symm.trans H; with_reducible exact H2_) | with_reducible exact H | (rw [hy223]; exact H) | exact H
                                      have Ny223 := Aside0.mk hy223
                                      clear hy223
                                      have c65b0 := eq_true (of_decide_eq_true (by first | (with_reducible assumption) | assumption) : 0 ≤ x10_3)
                                      have c66b0 := eq_true (of_decide_eq_true (by first | (with_reducible assumption) | assumption) : x10_3 ≤ (x8_2.length : Int))
                                      obtain ⟨y226, hy226⟩ : ∃ y_ : List (S51), y_ = (x8_2.drop (x10_3 : Int).toNat) := ⟨_, rfl⟩
                                      replace H : (if y223.length + y226.length < 2199023255552 then (porterref22_Rows.l2 k3 x3_1 (y223 ++ y226) (wrap64 (x9_2 + 1))) else (none)) = some r := by first | (rw [hy226]; with_reducible exact H) | (have H2_ := (Option.bind_some _ _).symm.trans H; rw [hy226]; with_reducible exact H2_) | (have H2_ := (Option.bind_some _ _).symm.trans H; with_reducible exact H2_) | with_reducible exact H | (rw [hy226]; exact H) | exact H
                                      have Ny226 := Aside0.mk hy226
                                      clear hy226
                                      by_cases c67 : y223.length + y226.length < 2199023255552
                                      · rw [if_pos c67] at H
                                        have LMc67 := Aside0.mk c67
                                        clear c67
                                        obtain ⟨y230, hy230⟩ : ∃ y_ : List (S51), y_ = (y223 ++ y226) := ⟨_, rfl⟩
                                        replace H : (porterref22_Rows.l2 k3 x3_1 y230 (wrap64 (x9_2 + 1))) = some r := by first | (rw [hy230]; with_reducible exact H) | (have H2_ := (Option.bind_some _ _).symm.trans H; rw [hy230]; with_reducible exact H2_) | (have H2_ := (Option.bind_some _ _).symm.trans H; with_reducible exact H2_) | with_reducible exact H | (rw [hy230]; exact H) | exact H
                                        have Ny230 := Aside0.mk hy230
                                        clear hy230
                                        have H' := Aside0.mk H
                                        clear H
                                        try go_wp2
                                        have n0_ := Aside0.mk (Kd.R_drew HO_3.out)
                                        have n1_ := Aside0.mk (Kd.R_drew HO_8.out)
                                        have n2_ := Aside0.mk (below_drew1 HB.out)
                                        clear HO_3
                                        clear HO_8
                                        clear HB
                                        have HO_3 := n0_
                                        have HO_8 := n1_
                                        have HB := n2_
                                        clear n0_ n1_ n2_
                                        have p209 : 0 ≤ (x9_2 : Int) := of_decide_eq_true (by first | (with_reducible assumption) | assumption)
                                        have q209 : x9_2 < (x3_1.length : Int) := of_decide_eq_true (by first | (with_reducible assumption) | assumption)
                                        obtain ⟨ad209, e209, hx209_0, hx209_1, hx209_2, hx209_3, hx209_4⟩ := at_T51 (Kd.R_reads' HO_3.out).2.2 x9_2 p209 q209
                                        cases e209
                                        replace p209 := eq_true p209
                                        replace q209 := eq_true q209
                                        have p210 : 0 ≤ ((ji54) : Int) := of_decide_eq_true (by first | (with_reducible assumption) | assumption)
                                        have q210 : (ji54) < (x8_2.length : Int) := of_decide_eq_true (by first | (with_reducible assumption) | assumption)
                                        obtain ⟨ad210, e210, hx210_0, hx210_1, hx210_2, hx210_3, hx210_4⟩ := at_T51 (Kd.R_reads' HO_8.out).2.2 (ji54) p210 q210
                                        cases e210
                                        replace p210 := eq_true p210
                                        replace q210 := eq_true q210
                                        refine start_ (n := 14) (S := fun w' => w'.cell? (ad209.add ((x9_2).toNat * 5)) = some (.string ((rd_T51 x3_1 x9_2).f0.f0)) ∧ w'.cell? ⟨(ad209.add ((x9_2).toNat * 5)).block, (ad209.add ((x9_2).toNat * 5)).off + 1, none⟩ = some (.string ((rd_T51 x3_1 x9_2).f0.f1)) ∧ w'.cell? ⟨(ad209.add ((x9_2).toNat * 5)).block, (ad209.add ((x9_2).toNat * 5)).off + 2, none⟩ = some (.string ((rd_T51 x3_1 x9_2).f0.f2)) ∧ w'.cell? ⟨(ad209.add ((x9_2).toNat * 5)).block, (ad209.add ((x9_2).toNat * 5)).off + 3, none⟩ = some (.int .i64 ((rd_T51 x3_1 x9_2).f1)) ∧ w'.cell? ⟨(ad209.add ((x9_2).toNat * 5)).block, (ad209.add ((x9_2).toNat * 5)).off + 4, none⟩ = some (.int .i64 ((rd_T51 x3_1 x9_2).f2)) ∧ w'.cell? (ad210.add (((ji54)).toNat * 5)) = some (.string ((rd_T51 x8_2 (ji54)).f0.f0)) ∧ w'.cell? ⟨(ad210.add (((ji54)).toNat * 5)).block, (ad210.add (((ji54)).toNat * 5)).off + 1, none⟩ = some (.string ((rd_T51 x8_2 (ji54)).f0.f1)) ∧ w'.cell? ⟨(ad210.add (((ji54)).toNat * 5)).block, (ad210.add (((ji54)).toNat * 5)).off + 2, none⟩ = some (.string ((rd_T51 x8_2 (ji54)).f0.f2)) ∧ w'.cell? ⟨(ad210.add (((ji54)).toNat * 5)).block, (ad210.add (((ji54)).toNat * 5)).off + 3, none⟩ = some (.int .i64 ((rd_T51 x8_2 (ji54)).f1)) ∧ w'.cell? ⟨(ad210.add (((ji54)).toNat * 5)).block, (ad210.add (((ji54)).toNat * 5)).off + 4, none⟩ = some (.int .i64 ((rd_T51 x8_2 (ji54)).f2))) (ds := []) #[false, false, false, false, false, false, false, false, false, false, false, false, false, false] (by kernel_rfl) rfl rfl ⟨hx209_0, hx209_1, hx209_2, hx209_3, hx209_4, hx210_0, hx210_1, hx210_2, hx210_3, hx210_4⟩ (fun hHeld => ?_); refine with_tabW porterref22_Rows.tab21 porterref22_Rows.bits21 (fun HT_ HW_ => ?_)
                                        generalize wr.drew = w68 at HO_3 HO_8 HB hx209_0 hx209_1 hx209_2 hx209_3 hx209_4 hx210_0 hx210_1 hx210_2 hx210_3 hx210_4 hHeld ⊢
                                        refine pure_ (i := 0) (N := some 80) (v := ?_) (a' := ?_) #[true, false, false, false, false, false, false, false, false, false, false, false, false, false] rfl rfl (any_of HT_.out (by kernel_rfl)) (fun _ _ _ h => h) (Or.inl ⟨by rfl, ?_⟩) ?_ ?_
                                        rotate_left
                                        · intro w'
                                          go_simp
                                          with_reducible rfl
                                        rotate_left
                                        · simp only [Act.put, List.setIfInBounds_toArray, List.set_cons_zero, List.set_cons_succ, i64_w, i32_w]
                                          rfl
                                        refine pure_ (i := 1) (N := some 81) (v := ?_) (a' := ?_) #[true, true, false, false, false, false, false, false, false, false, false, false, false, false] rfl rfl (any_of HT_.out (by kernel_rfl)) (fun _ _ _ h => h) (Or.inl ⟨by rfl, ?_⟩) ?_ ?_
                                        rotate_left
                                        · intro w'
                                          go_simp
                                          with_reducible rfl
                                        rotate_left
                                        · simp only [Act.put, List.setIfInBounds_toArray, List.set_cons_zero, List.set_cons_succ, i64_w, i32_w]
                                          rfl
                                        refine pure_ (i := 2) (N := some 82) (v := ?_) (a' := ?_) #[true, true, true, false, false, false, false, false, false, false, false, false, false, false] rfl rfl (any_of HT_.out (by kernel_rfl)) (fun _ _ _ h => h) (Or.inl ⟨by rfl, ?_⟩) ?_ ?_
                                        rotate_left
                                        · intro w'
                                          go_simp
                                          with_reducible rfl
                                        rotate_left
                                        · simp only [Act.put, List.setIfInBounds_toArray, List.set_cons_zero, List.set_cons_succ, i64_w, i32_w]
                                          rfl
                                        refine pure_ (i := 3) (N := some 83) (v := ?_) (a' := ?_) #[true, true, true, true, false, false, false, false, false, false, false, false, false, false] rfl rfl (any_of HT_.out (by kernel_rfl)) (fun _ _ _ h => h) (Or.inl ⟨by rfl, ?_⟩) ?_ ?_
                                        rotate_left
                                        · intro w'
                                          go_simp
                                          with_reducible rfl
                                        rotate_left
                                        · simp only [Act.put, List.setIfInBounds_toArray, List.set_cons_zero, List.set_cons_succ, i64_w, i32_w]
                                          rfl
                                        refine pure_ (i := 4) (N := some 84) (v := ?_) (a' := ?_) #[true, true, true, true, true, false, false, false, false, false, false, false, false, false] rfl rfl (any_of HT_.out (by kernel_rfl)) (fun _ _ _ h => h) (Or.inl ⟨by rfl, ?_⟩) ?_ ?_
                                        rotate_left
                                        · intro w'
                                          go_simp
                                          with_reducible rfl
                                        rotate_left
                                        · simp only [Act.put, List.setIfInBounds_toArray, List.set_cons_zero, List.set_cons_succ, i64_w, i32_w]
                                          rfl
                                        refine pure_ (i := 5) (N := some 85) (v := ?_) (a' := ?_) #[true, true, true, true, true, true, false, false, false, false, false, false, false, false] rfl rfl (any_of HT_.out (by kernel_rfl)) (fun _ _ _ h => h) (Or.inl ⟨by rfl, ?_⟩) ?_ ?_
                                        rotate_left
                                        · intro w'
                                          go_simp
                                          with_reducible rfl
                                        rotate_left
                                        · simp only [Act.put, List.setIfInBounds_toArray, List.set_cons_zero, List.set_cons_succ, i64_w, i32_w]
                                          rfl
                                        refine pure_ (i := 7) (N := some 87) (v := ?_) (a' := ?_) #[true, true, true, true, true, true, false, true, false, false, false, false, false, false] rfl rfl (any_of HT_.out (by kernel_rfl)) (fun _ _ _ h => h) (Or.inl ⟨by rfl, ?_⟩) ?_ ?_
                                        rotate_left
                                        · intro w'
                                          go_simp
                                          with_reducible rfl
                                        rotate_left
                                        · simp only [Act.put, List.setIfInBounds_toArray, List.set_cons_zero, List.set_cons_succ, i64_w, i32_w]
                                          rfl
                                        refine pure_ (i := 8) (N := some 88) (v := ?_) (a' := ?_) #[true, true, true, true, true, true, false, true, true, false, false, false, false, false] rfl rfl (any_of HT_.out (by kernel_rfl)) (fun _ _ _ h => h) (Or.inl ⟨by rfl, ?_⟩) ?_ ?_
                                        rotate_left
                                        · intro w'
                                          go_simp
                                          with_reducible rfl
                                        rotate_left
                                        · simp only [Act.put, List.setIfInBounds_toArray, List.set_cons_zero, List.set_cons_succ, i64_w, i32_w]
                                          rfl
                                        refine pure_ (i := 9) (N := some 89) (v := ?_) (a' := ?_) #[true, true, true, true, true, true, false, true, true, true, false, false, false, false] rfl rfl (any_of HT_.out (by kernel_rfl)) (fun _ _ _ h => h) (Or.inl ⟨by rfl, ?_⟩) ?_ ?_
                                        rotate_left
                                        · intro w'
                                          go_simp
                                          with_reducible rfl
                                        rotate_left
                                        · simp only [Act.put, List.setIfInBounds_toArray, List.set_cons_zero, List.set_cons_succ, i64_w, i32_w]
                                          rfl
                                        refine pure_ (i := 10) (N := some 90) (v := ?_) (a' := ?_) #[true, true, true, true, true, true, false, true, true, true, true, false, false, false] rfl rfl (any_of HT_.out (by kernel_rfl)) (fun _ _ _ h => h) (Or.inl ⟨by rfl, ?_⟩) ?_ ?_
                                        rotate_left
                                        · intro w'
                                          go_simp
                                          with_reducible rfl
                                        rotate_left
                                        · simp only [Act.put, List.setIfInBounds_toArray, List.set_cons_zero, List.set_cons_succ, i64_w, i32_w]
                                          rfl
                                        refine take_ (i := 6) (N := some 86) (v := ?_) (a' := ?_) #[true, true, true, true, true, true, true, true, true, true, true, false, false, false] rfl rfl (take_ofW HT_.out HW_.out (by kernel_rfl)) (fun _ _ _ h => h) (Or.inl ⟨by rfl, ?_⟩) hHeld ?_ ?_
                                        rotate_left
                                        · rintro w' ⟨s0, s1, s2, s3, s4, s5, s6, s7, s8, s9⟩
                                          go_simp
                                          with_reducible rfl
                                        rotate_left
                                        · simp only [Act.put, List.setIfInBounds_toArray, List.set_cons_zero, List.set_cons_succ, i64_w, i32_w]
                                          rfl
                                        refine take_ (i := 11) (N := some 91) (v := ?_) (a' := ?_) #[true, true, true, true, true, true, true, true, true, true, true, true, false, false] rfl rfl (take_ofW HT_.out HW_.out (by kernel_rfl)) (fun _ _ _ h => h) (Or.inl ⟨by rfl, ?_⟩) hHeld ?_ ?_
                                        rotate_left
                                        · rintro w' ⟨s0, s1, s2, s3, s4, s5, s6, s7, s8, s9⟩
                                          go_simp
                                          with_reducible rfl
                                        rotate_left
                                        · simp only [Act.put, List.setIfInBounds_toArray, List.set_cons_zero, List.set_cons_succ, i64_w, i32_w]
                                          rfl
                                        refine one_ (i := 12) (N := some 92) #[true, true, true, true, true, true, true, true, true, true, true, true, true, false] rfl rfl (one_of HT_.out (by kernel_rfl)) (by decide) (fun K hK => ?_)
                                        refine goes_ Try.func31 (by kernel_rfl) rfl #[.agg #[.string ((rd_T51 x3_1 x9_2).f0.f0), .string ((rd_T51 x3_1 x9_2).f0.f1), .string ((rd_T51 x3_1 x9_2).f0.f2), .int .i64 ((rd_T51 x3_1 x9_2).f1), .int .i64 ((rd_T51 x3_1 x9_2).f2)], .agg #[.string ((rd_T51 x8_2 (ji54)).f0.f0), .string ((rd_T51 x8_2 (ji54)).f0.f1), .string ((rd_T51 x8_2 (ji54)).f0.f2), .int .i64 ((rd_T51 x8_2 (ji54)).f1), .int .i64 ((rd_T51 x8_2 (ji54)).f2)]] (by rfl) rfl rfl (by (try simp only [List.map_toArray, List.map_cons, List.map_nil]); first | done | (simp only [hji54]; rfl) | rfl | (simp only [List.length_drop, List.length_take]; rfl)) ?_
                                        with_reducible refine (porterref07_Before.calls ((rd_T51 x3_1 x9_2).f0.f0) ((rd_T51 x3_1 x9_2).f0.f1) ((rd_T51 x3_1 x9_2).f0.f2) ((rd_T51 x3_1 x9_2).f1) ((rd_T51 x3_1 x9_2).f2) ((rd_T51 x8_2 (ji54)).f0.f0) ((rd_T51 x8_2 (ji54)).f0.f1) ((rd_T51 x8_2 (ji54)).f0.f2) ((rd_T51 x8_2 (ji54)).f1) ((rd_T51 x8_2 (ji54)).f2) false _ A57.out).mono ?_
                                        rintro e w69 ⟨rfl, hb⟩
                                        have HS0_ := (hb.cell (World.block_lt_of_cell? _ _ (hHeld.1))).trans (hHeld.1)
                                        have HS1_ := (hb.cell (World.block_lt_of_cell? _ _ (hHeld.2.1))).trans (hHeld.2.1)
                                        have HS2_ := (hb.cell (World.block_lt_of_cell? _ _ (hHeld.2.2.1))).trans (hHeld.2.2.1)
                                        have HS3_ := (hb.cell (World.block_lt_of_cell? _ _ (hHeld.2.2.2.1))).trans (hHeld.2.2.2.1)
                                        have HS4_ := (hb.cell (World.block_lt_of_cell? _ _ (hHeld.2.2.2.2.1))).trans (hHeld.2.2.2.2.1)
                                        have HS5_ := (hb.cell (World.block_lt_of_cell? _ _ (hHeld.2.2.2.2.2.1))).trans (hHeld.2.2.2.2.2.1)
                                        have HS6_ := (hb.cell (World.block_lt_of_cell? _ _ (hHeld.2.2.2.2.2.2.1))).trans (hHeld.2.2.2.2.2.2.1)
                                        have HS7_ := (hb.cell (World.block_lt_of_cell? _ _ (hHeld.2.2.2.2.2.2.2.1))).trans (hHeld.2.2.2.2.2.2.2.1)
                                        have HS8_ := (hb.cell (World.block_lt_of_cell? _ _ (hHeld.2.2.2.2.2.2.2.2.1))).trans (hHeld.2.2.2.2.2.2.2.2.1)
                                        have HS9_ := (hb.cell (World.block_lt_of_cell? _ _ (hHeld.2.2.2.2.2.2.2.2.2))).trans (hHeld.2.2.2.2.2.2.2.2.2)
                                        refine ⟨_, rfl, ?_⟩
                                        have n0_ := Aside0.mk (Kd.R_below (by (with_reducible repeat (first | apply Kd.R_alloc | apply Kd.R_drewN | apply Kd.R_drew)); exact HO_3.out) hb)
                                        have n1_ := Aside0.mk (Kd.R_below (by (with_reducible repeat (first | apply Kd.R_alloc | apply Kd.R_drewN | apply Kd.R_drew)); exact HO_8.out) hb)
                                        have n2_ := Aside0.mk (below_step (by repeat (first | (with_reducible first | exact HB.out | apply below_alloc | apply pw_below_drewN | apply below_drew1) | exact HB.out)) hb)
                                        clear HO_3
                                        clear HO_8
                                        clear HB
                                        have HO_3 := n0_
                                        have HO_8 := n1_
                                        have HB := n2_
                                        clear n0_ n1_ n2_
                                        (try clear hb)
                                        (try clear hb2)
                                        (try clear hk)
                                        (try clear hi)
                                        refine hK.out _ _ ⟨HS0_, HS1_, HS2_, HS3_, HS4_, HS5_, HS6_, HS7_, HS8_, HS9_⟩ (fun hHeld => ?_)
                                        clear hK K
                                        refine norm_ (a' := ?_) ?_ ?_
                                        rotate_left
                                        · show Act.put _ (some 92) _ = _
                                          simp only [Act.put, List.setIfInBounds_toArray, List.set_cons_zero, List.set_cons_succ, i64_w, i32_w]
                                          rfl
                                        refine pure_ (i := 13) (N := some 93) (v := ?_) (a' := ?_) #[true, true, true, true, true, true, true, true, true, true, true, true, true, true] rfl rfl (any_of HT_.out (by kernel_rfl)) (fun _ _ _ h => h) (Or.inl ⟨by rfl, ?_⟩) ?_ ?_
                                        rotate_left
                                        · intro w'
                                          go_simp
                                          with_reducible rfl
                                        rotate_left
                                        · simp only [Act.put, List.setIfInBounds_toArray, List.set_cons_zero, List.set_cons_succ, i64_w, i32_w]
                                          rfl
                                        refine done_ (done_of HT_.out (by kernel_rfl)) ?_
                                        try go_wp2_with (first | ((with_reducible refine gate_dst (N := 96) rfl ?_); refine Kd.R_lit k51 _ 51 ?hg (N := 96) ?hd (xs := ([] : List (S51))) (inner := []) (ok := fun _ => True) (okp := fun _ => True) ?hr ?hp (fun _ hk => hk) trivial (Below.refl _ _) (Nat.le_refl _) (by simp) ?_; (case hd => rfl); (case hg => rfl); (case hr => first | (go_simp; done) | (go_simp; rfl)); (case hp => exact (Reps.none _ _)); intro v213 w70 ho71 hb hg_ hnew_; clear hg_ hnew_; (first | rw [← Ny212.out] at ho71 | (simp only [Int.reduceToNat] at ho71; rw [← Ny212.out] at ho71)); have n0_ := Aside0.mk (Kd.R_elder' (by (with_reducible repeat (first | apply Kd.R_alloc | apply Kd.R_drewN | apply Kd.R_drew)); exact HO_3.out) (Kd.R_base ho71) hb); have n1_ := Aside0.mk (Kd.R_elder' (by (with_reducible repeat (first | apply Kd.R_alloc | apply Kd.R_drewN | apply Kd.R_drew)); exact HO_8.out) (Kd.R_base ho71) hb); have n2_ := Aside0.mk (Kd.R_lower (Kd.R_new' (Kd.R_new' ho71 (Kd.R_lt (by (with_reducible repeat (first | apply Kd.R_alloc | apply Kd.R_drewN | apply Kd.R_drew)); exact HO_3.out))) (Kd.R_lt (by (with_reducible repeat (first | apply Kd.R_alloc | apply Kd.R_drewN | apply Kd.R_drew)); exact HO_8.out))) (below_size (by repeat (first | (with_reducible first | exact HB.out | apply below_alloc | apply pw_below_drewN | apply below_drew1) | exact HB.out)))); have n3_ := Aside0.mk (below_step (by repeat (first | (with_reducible first | exact HB.out | apply below_alloc | apply pw_below_drewN | apply below_drew1) | exact HB.out)) hb); clear HO_3; clear HO_8; clear HB; have HO_3 := n0_; have HO_8 := n1_; have HO214 := n2_; have HB := n3_; clear n0_ n1_ n2_ n3_; clear hb ho71; have q72 : (x10_3 : Int) ≤ ((x8_2.length : Int) : Int) := of_decide_eq_true (by first | (with_reducible assumption) | assumption); obtain ⟨i072, hi072, _, hsz72, _⟩ := info_parts info51; have hroom72 : x8_2.length ≤ co50 := (Kd.R_reads' HO_8.out).2.1; have hC72 : Kd.C k51 _ (some ad210) x8_2.length x8_2 := (Kd.R_reads' HO_8.out).2.2; have hcut72 := cut_to (P := Try.prog) 30 51 .i64 Try.underlying30 hi072 (some ad210) x8_2.length co50 x10_3 (of_decide_eq_true (by first | (with_reducible assumption) | assumption)) q72 hroom72; have hr72 := Kd.C_take (m := (x10_3 : Int).toNat) hC72 (by omega); have hy72 : y215.length = (x10_3 : Int).toNat := (by rw [Ny215.out, List.length_take]; omega); rw [← Ny215.out] at hr72; rw [← hy72] at hcut72; have HR218 := Aside0.mk hr72; have HC218 := Aside0.mk (show y215.length ≤ co50 from by omega); clear hr72 hC72 hroom72 hi072 hsz72; have KY72 := Aside0.mk hy72; clear hy72; have KL72 := Aside0.mk (show (x10_3 : Int).toNat ≤ x8_2.length from by omega); replace q72 := eq_true q72) | ((with_reducible refine gate_builtin (b := .append) (xs := #[.tmp 96, .tmp 99]) rfl ?_); at_builtin; refine Kd.R_append_rows k51 (w0 := w) w.heap.size rfl (.tmp 96) (.tmp 99) 30 51 (.agg #[(.string ⟨#[]⟩), (.string ⟨#[]⟩), (.string ⟨#[]⟩), (.int .i64 0), (.int .i64 0)]) 64 rfl Try.underlying30 info51 rfl (by decide) (by omega) v213 y212 y215 _ _ _ (fun k_ => some k_ ≠ (.slice (some ad209) x3_1.length co49 : Value).ownBlock ∧ some k_ ≠ (.slice (some ad210) x8_2.length co50 : Value).ownBlock) (fun _ => False) rfl rfl ?aO ?aR (fun _ _ h => h) (fun _ h => h.elim) ?aF ?aB ?aS ?aL ?_; (case aR => repeat (first | exact (by repeat (first | (with_reducible exact HR218.out) | (with_reducible refine Kd.C_alloc ?_ _) | (with_reducible refine Kd.C_drewN ?_ _) | (with_reducible refine Kd.C_drew ?_) | exact HR218.out)) | (with_reducible refine Kd.C_alloc ?_ _) | (with_reducible refine Kd.C_drewN ?_ _) | (with_reducible refine Kd.C_drew ?_))); (case aB => exact (by repeat (first | (with_reducible first | exact HB.out | apply below_alloc | apply pw_below_drewN | apply below_drew1) | exact HB.out))); (case aF => exact (fun k_ hk => ⟨Kd.fresh' (Kd.R_lt (by (with_reducible repeat (first | apply Kd.R_alloc | apply Kd.R_drewN | apply Kd.R_drew)); exact HO_3.out)) k_ hk, Kd.fresh' (Kd.R_lt (by (with_reducible repeat (first | apply Kd.R_alloc | apply Kd.R_drewN | apply Kd.R_drew)); exact HO_8.out)) k_ hk⟩)); (case aO => exact (by (with_reducible repeat (first | apply Kd.R_alloc | apply Kd.R_drewN | apply Kd.R_drew)); exact Kd.R_mono HO214.out (fun _ hk => ⟨hk.1.2, hk.2⟩))); (case aS => exact (below_size (by repeat (first | (with_reducible first | exact HB.out | apply below_alloc | apply pw_below_drewN | apply below_drew1) | exact HB.out)))); (case aL => have := LMc63.out; omega); intro v220 w73 ho hb hg hat; rw [← Ny219.out] at ho; have n0_ := Aside0.mk (Kd.R_after (ok := (fun k_ => some k_ ≠ (.slice (some ad210) x8_2.length co50 : Value).ownBlock)) (by (with_reducible repeat (first | apply Kd.R_alloc | apply Kd.R_drewN | apply Kd.R_drew)); exact HO_3.out) hg hat); have n1_ := Aside0.mk (Kd.R_after (ok := (fun k_ => some k_ ≠ (.slice (some ad209) x3_1.length co49 : Value).ownBlock)) (by (with_reducible repeat (first | apply Kd.R_alloc | apply Kd.R_drewN | apply Kd.R_drew)); exact HO_8.out) hg hat); have n2_ := Aside0.mk (hb); have n3_ := Aside0.mk ((show Kd.C k51 w73 (some ad210) y215.length y215 from by rw [Ny215.out]; exact Kd.C_take (m := (x10_3 : Int).toNat) ((Kd.R_reads' (Kd.R_after (ok := (fun k_ => some k_ ≠ (.slice (some ad209) x3_1.length co49 : Value).ownBlock)) (by (with_reducible repeat (first | apply Kd.R_alloc | apply Kd.R_drewN | apply Kd.R_drew)); exact HO_8.out) hg hat)).2.2) KL72.out)); have n4_ := Aside0.mk (ho); clear HO_3; clear HO_8; clear HB; clear HR218; clear HO214; have HO_3 := n0_; have HO_8 := n1_; have HB := n2_; have HR218 := n3_; have HO221 := n4_; clear n0_ n1_ n2_ n3_ n4_; clear ho hb hg hat; have p222 : 0 ≤ (x9_2 : Int) := of_decide_eq_true (by first | (with_reducible assumption) | assumption); have q222 : x9_2 < (x3_1.length : Int) := of_decide_eq_true (by first | (with_reducible assumption) | assumption); obtain ⟨ad222, e222, hx222_0, hx222_1, hx222_2, hx222_3, hx222_4⟩ := at_T51 (Kd.R_reads' HO_3.out).2.2 x9_2 p222 q222; obtain rfl : ad209 = ad222 := (by injection e222); replace p222 := eq_true p222; replace q222 := eq_true q222) | ((with_reducible refine gate_builtin (b := .append) (xs := #[.tmp 101, .tmp 106]) rfl ?_); at_builtin; refine Kd.R_append k51 (w0 := w) w.heap.size rfl (.tmp 101) (.tmp 106) 30 51 (.agg #[(.string ⟨#[]⟩), (.string ⟨#[]⟩), (.string ⟨#[]⟩), (.int .i64 0), (.int .i64 0)]) 64 rfl Try.underlying30 info51 rfl (by decide) (by omega) v220 y219 (⟨(⟨(rd_T51 x3_1 x9_2).f0.f0, (rd_T51 x3_1 x9_2).f0.f1, (rd_T51 x3_1 x9_2).f0.f2⟩ : S25), (rd_T51 x3_1 x9_2).f1, (rd_T51 x3_1 x9_2).f2⟩ : S51) [.string ((rd_T51 x3_1 x9_2).f0.f0), .string ((rd_T51 x3_1 x9_2).f0.f1), .string ((rd_T51 x3_1 x9_2).f0.f2), .int .i64 ((rd_T51 x3_1 x9_2).f1), .int .i64 ((rd_T51 x3_1 x9_2).f2)] (fun k_ => some k_ ≠ (.slice (some ad209) x3_1.length co49 : Value).ownBlock ∧ some k_ ≠ (.slice (some ad210) x8_2.length co50 : Value).ownBlock) (fun _ => False) rfl rfl ?aP (fun _ hk => hk.elim) ?aF ?aO ?aB ?aS ?aL ?_; (case aP => exact k51_mkM _ _ _ (⟨(⟨(rd_T51 x3_1 x9_2).f0.f0, (rd_T51 x3_1 x9_2).f0.f1, (rd_T51 x3_1 x9_2).f0.f2⟩ : S25), (rd_T51 x3_1 x9_2).f1, (rd_T51 x3_1 x9_2).f2⟩ : S51)); (case aB => exact (by repeat (first | (with_reducible first | exact HB.out | apply below_alloc | apply pw_below_drewN | apply below_drew1) | exact HB.out))); (case aF => exact (fun k_ hk => ⟨Kd.fresh' (Kd.R_lt (by (with_reducible repeat (first | apply Kd.R_alloc | apply Kd.R_drewN | apply Kd.R_drew)); exact HO_3.out)) k_ hk, Kd.fresh' (Kd.R_lt (by (with_reducible repeat (first | apply Kd.R_alloc | apply Kd.R_drewN | apply Kd.R_drew)); exact HO_8.out)) k_ hk⟩)); (case aO => exact (by (with_reducible repeat (first | apply Kd.R_alloc | apply Kd.R_drewN | apply Kd.R_drew)); exact HO221.out)); (case aS => exact (below_size (by repeat (first | (with_reducible first | exact HB.out | apply below_alloc | apply pw_below_drewN | apply below_drew1) | exact HB.out)))); (case aL => have := LMc64.out; omega); intro v224 w74 ho hb hg hat; rw [← Ny223.out] at ho; have n0_ := Aside0.mk (Kd.R_after (ok := (fun k_ => some k_ ≠ (.slice (some ad210) x8_2.length co50 : Value).ownBlock)) (by (with_reducible repeat (first | apply Kd.R_alloc | apply Kd.R_drewN | apply Kd.R_drew)); exact HO_3.out) hg hat); have n1_ := Aside0.mk (Kd.R_after (ok := (fun k_ => some k_ ≠ (.slice (some ad209) x3_1.length co49 : Value).ownBlock)) (by (with_reducible repeat (first | apply Kd.R_alloc | apply Kd.R_drewN | apply Kd.R_drew)); exact HO_8.out) hg hat); have n2_ := Aside0.mk (hb); have n3_ := Aside0.mk ((show Kd.C k51 w74 (some ad210) y215.length y215 from by rw [Ny215.out]; exact Kd.C_take (m := (x10_3 : Int).toNat) ((Kd.R_reads' (Kd.R_after (ok := (fun k_ => some k_ ≠ (.slice (some ad209) x3_1.length co49 : Value).ownBlock)) (by (with_reducible repeat (first | apply Kd.R_alloc | apply Kd.R_drewN | apply Kd.R_drew)); exact HO_8.out) hg hat)).2.2) KL72.out)); have n4_ := Aside0.mk (ho); clear HO_3; clear HO_8; clear HB; clear HR218; clear HO221; have HO_3 := n0_; have HO_8 := n1_; have HB := n2_; have HR218 := n3_; have HO225 := n4_; clear n0_ n1_ n2_ n3_ n4_; clear ho hb hg hat; have q75 : (x10_3 : Int) ≤ ((x8_2.length : Int) : Int) := of_decide_eq_true (by first | (with_reducible assumption) | assumption); obtain ⟨i075, hi075, _, hsz75, _⟩ := info_parts info51; have hroom75 : x8_2.length ≤ co50 := (Kd.R_reads' HO_8.out).2.1; have hC75 : Kd.C k51 _ (some ad210) x8_2.length x8_2 := (Kd.R_reads' HO_8.out).2.2; have q075 : (0 : Int) ≤ (x10_3 : Int) := of_decide_eq_true (by first | (with_reducible assumption) | assumption); have hcut75 := cut_from (P := Try.prog) 30 51 .i64 Try.underlying30 hi075 5 hsz75 (some ad210) x8_2.length co50 x10_3 q075 q75; have hr75 := Kd.C_drop (m := (x10_3 : Int).toNat) (c := co50) hC75 (by omega) hroom75; obtain ⟨A75, hA75⟩ : ∃ A1, A1 = (if co50 = (x10_3 : Int).toNat then (some ad210) else ((some ad210) : Option Addr).map (·.add ((x10_3 : Int).toNat * 5))) := ⟨_, rfl⟩; obtain ⟨c75, hc75⟩ : ∃ c1, c1 = co50 - (x10_3 : Int).toNat := ⟨_, rfl⟩; have hy75 : y226.length = x8_2.length - (x10_3 : Int).toNat := (by rw [Ny226.out, List.length_drop] <;> omega); rw [show (x8_2).drop (x10_3 : Int).toNat = y226 from Ny226.out.symm] at hr75; replace hr75 : Kd.C k51 _ A75 y226.length y226 := (by rw [hA75]; exact hr75); rw [← hy75, ← hA75, ← hc75] at hcut75; have HR229 := Aside0.mk hr75; have HC229 := Aside0.mk (show y226.length ≤ c75 from by rw [hy75, hc75]; exact Nat.sub_le_sub_right hroom75 _); clear hr75 hC75 hroom75 hi075 hsz75 hc75; have KY75 := Aside0.mk hy75; have KA75 := Aside0.mk hA75; clear hy75 hA75; have KL75 := Aside0.mk (show (x10_3 : Int).toNat ≤ x8_2.length from by omega); replace q75 := eq_true q75) | ((with_reducible refine gate_builtin (b := .append) (xs := #[.tmp 108, .tmp 111]) rfl ?_); at_builtin; refine Kd.R_append_rows k51 (w0 := w) w.heap.size rfl (.tmp 108) (.tmp 111) 30 51 (.agg #[(.string ⟨#[]⟩), (.string ⟨#[]⟩), (.string ⟨#[]⟩), (.int .i64 0), (.int .i64 0)]) 64 rfl Try.underlying30 info51 rfl (by decide) (by omega) v224 y223 y226 _ _ _ (fun k_ => some k_ ≠ (.slice (some ad209) x3_1.length co49 : Value).ownBlock ∧ some k_ ≠ (.slice (some ad210) x8_2.length co50 : Value).ownBlock) (fun _ => False) rfl rfl ?aO ?aR (fun _ _ h => h) (fun _ h => h.elim) ?aF ?aB ?aS ?aL ?_; (case aR => repeat (first | exact (by repeat (first | (with_reducible exact HR229.out) | (with_reducible refine Kd.C_alloc ?_ _) | (with_reducible refine Kd.C_drewN ?_ _) | (with_reducible refine Kd.C_drew ?_) | exact HR229.out)) | (with_reducible refine Kd.C_alloc ?_ _) | (with_reducible refine Kd.C_drewN ?_ _) | (with_reducible refine Kd.C_drew ?_))); (case aB => exact (by repeat (first | (with_reducible first | exact HB.out | apply below_alloc | apply pw_below_drewN | apply below_drew1) | exact HB.out))); (case aF => exact (fun k_ hk => ⟨Kd.fresh' (Kd.R_lt (by (with_reducible repeat (first | apply Kd.R_alloc | apply Kd.R_drewN | apply Kd.R_drew)); exact HO_3.out)) k_ hk, Kd.fresh' (Kd.R_lt (by (with_reducible repeat (first | apply Kd.R_alloc | apply Kd.R_drewN | apply Kd.R_drew)); exact HO_8.out)) k_ hk⟩)); (case aO => exact (by (with_reducible repeat (first | apply Kd.R_alloc | apply Kd.R_drewN | apply Kd.R_drew)); exact HO225.out)); (case aS => exact (below_size (by repeat (first | (with_reducible first | exact HB.out | apply below_alloc | apply pw_below_drewN | apply below_drew1) | exact HB.out)))); (case aL => have := LMc67.out; omega); intro v231 w76 ho hb hg hat; rw [← Ny230.out] at ho; have n0_ := Aside0.mk (Kd.R_after (ok := (fun k_ => some k_ ≠ (.slice (some ad210) x8_2.length co50 : Value).ownBlock)) (by (with_reducible repeat (first | apply Kd.R_alloc | apply Kd.R_drewN | apply Kd.R_drew)); exact HO_3.out) hg hat); have n1_ := Aside0.mk (Kd.R_after (ok := (fun k_ => some k_ ≠ (.slice (some ad209) x3_1.length co49 : Value).ownBlock)) (by (with_reducible repeat (first | apply Kd.R_alloc | apply Kd.R_drewN | apply Kd.R_drew)); exact HO_8.out) hg hat); have n2_ := Aside0.mk (hb); have n3_ := Aside0.mk ((show Kd.C k51 w76 (some ad210) y215.length y215 from by rw [Ny215.out]; exact Kd.C_take (m := (x10_3 : Int).toNat) ((Kd.R_reads' (Kd.R_after (ok := (fun k_ => some k_ ≠ (.slice (some ad209) x3_1.length co49 : Value).ownBlock)) (by (with_reducible repeat (first | apply Kd.R_alloc | apply Kd.R_drewN | apply Kd.R_drew)); exact HO_8.out) hg hat)).2.2) KL72.out)); have n4_ := Aside0.mk ((show Kd.C k51 w76 A75 y226.length y226 from by rw [Ny226.out, KA75.out]; exact Kd.C_drop (m := (x10_3 : Int).toNat) (c := co50) ((Kd.R_reads' (Kd.R_after (ok := (fun k_ => some k_ ≠ (.slice (some ad209) x3_1.length co49 : Value).ownBlock)) (by (with_reducible repeat (first | apply Kd.R_alloc | apply Kd.R_drewN | apply Kd.R_drew)); exact HO_8.out) hg hat)).2.2) KL75.out ((Kd.R_reads' (Kd.R_after (ok := (fun k_ => some k_ ≠ (.slice (some ad209) x3_1.length co49 : Value).ownBlock)) (by (with_reducible repeat (first | apply Kd.R_alloc | apply Kd.R_drewN | apply Kd.R_drew)); exact HO_8.out) hg hat)).2.1))); have n5_ := Aside0.mk (ho); clear HO_3; clear HO_8; clear HB; clear HR218; clear HR229; clear HO225; have HO_3 := n0_; have HO_8 := n1_; have HB := n2_; have HR218 := n3_; have HR229 := n4_; have HO232 := n5_; clear n0_ n1_ n2_ n3_ n4_ n5_; clear ho hb hg hat))
                                        go_roundg k3
                                        case measure => have := HK1.out; have := HK2.out; have := HK3.out; omega
                                        case rel => exact ⟨(y230), (wrap64 (x9_2 + 1)), (by first | rfl | (simp; done) | (simp [*]; done)), H', ⟨by have := HK1.out; have := HK2.out; have := HK3.out; omega⟩, ⟨by (with_reducible repeat (first | apply Kd.R_alloc | apply Kd.R_drewN | apply Kd.R_drew)); exact Kd.R_mono HO_3.out (fun _ hk => hk.2)⟩, ⟨by (with_reducible repeat (first | apply Kd.R_alloc | apply Kd.R_drewN | apply Kd.R_drew)); exact Kd.R_mono HO232.out (fun _ hk => hk.1)⟩, ⟨by repeat (first | (with_reducible first | exact HB.out | apply below_alloc | apply pw_below_drewN | apply below_drew1) | exact HB.out)⟩⟩
                                      · rw [if_neg c67] at H
                                        exact absurd H (by simp)
                                    · rw [if_neg c64] at H
                                      exact absurd H (by simp)
                                  · rw [if_neg c63] at H
                                    exact absurd H (by simp)
                                · rw [if_neg c62] at H
                                  exact absurd H (by simp)
                              · rw [if_neg c61] at H
                                exact absurd H (by simp)
                          · rw [if_neg c56] at H
                            exact absurd H (by simp)
                        · rw [if_neg c55] at H
                          exact absurd H (by simp)
                      · rw [if_neg c53] at H
                        exact absurd H (by simp)
                    · rw [if_neg c52] at H
                      exact absurd H (by simp)
                  · rw [if_neg c51] at H
                    have c51b0 : decide (0 < x10_3) = false := decide_eq_false c51
                    clear c51
                    obtain ⟨y233, hy233⟩ : ∃ y_ : List (S51), y_ = (([] : List (S51))) := ⟨_, rfl⟩
                    replace H : (if 0 ≤ x10_3 then (if x10_3 ≤ (x8_2.length : Int) then ((some (x8_2.take (x10_3 : Int).toNat : List (S51))).bind fun y236 => (if y233.length + y236.length < 2199023255552 then ((some (y233 ++ y236 : List (S51))).bind fun y240 => (if 0 ≤ x9_2 then (if x9_2 < (x3_1.length : Int) then (if y240.length < 2199023255552 then ((some (y240 ++ [(⟨(⟨(rd_T51 x3_1 x9_2).f0.f0, (rd_T51 x3_1 x9_2).f0.f1, (rd_T51 x3_1 x9_2).f0.f2⟩ : S25), (rd_T51 x3_1 x9_2).f1, (rd_T51 x3_1 x9_2).f2⟩ : S51)] : List (S51))).bind fun y244 => ((some (x8_2.drop (x10_3 : Int).toNat : List (S51))).bind fun y247 => (if y244.length + y247.length < 2199023255552 then (porterref22_Rows.l2 k3 x3_1 (y244 ++ y247) (wrap64 (x9_2 + 1))) else (none)))) else (none)) else (none)) else (none))) else (none))) else (none)) else (none)) = some r := by first | (rw [hy233]; with_reducible exact H) | (have H2_ := (Option.bind_some _ _).symm.trans H; rw [hy233]; with_reducible exact H2_) | (have H2_ := (Option.bind_some _ _).symm.trans H; with_reducible exact H2_) | with_reducible exact H | (rw [hy233]; exact H) | exact H
                    have Ny233 := Aside0.mk hy233
                    clear hy233
                    by_cases c77 : 0 ≤ x10_3
                    · rw [if_pos c77] at H
                      have c77b0 := eq_true c77
                      have c77b1 : decide (0 ≤ x10_3) = true := decide_eq_true c77
                      clear c77
                      by_cases c78 : x10_3 ≤ (x8_2.length : Int)
                      · rw [if_pos c78] at H
                        have c78b0 := eq_true c78
                        have c78b1 : decide (x10_3 ≤ (x8_2.length : Int)) = true := decide_eq_true c78
                        clear c78
                        obtain ⟨y236, hy236⟩ : ∃ y_ : List (S51), y_ = (x8_2.take (x10_3 : Int).toNat) := ⟨_, rfl⟩
                        replace H : (if y233.length + y236.length < 2199023255552 then ((some (y233 ++ y236 : List (S51))).bind fun y240 => (if 0 ≤ x9_2 then (if x9_2 < (x3_1.length : Int) then (if y240.length < 2199023255552 then ((some (y240 ++ [(⟨(⟨(rd_T51 x3_1 x9_2).f0.f0, (rd_T51 x3_1 x9_2).f0.f1, (rd_T51 x3_1 x9_2).f0.f2⟩ : S25), (rd_T51 x3_1 x9_2).f1, (rd_T51 x3_1 x9_2).f2⟩ : S51)] : List (S51))).bind fun y244 => ((some (x8_2.drop (x10_3 : Int).toNat : List (S51))).bind fun y247 => (if y244.length + y247.length < 2199023255552 then (porterref22_Rows.l2 k3 x3_1 (y244 ++ y247) (wrap64 (x9_2 + 1))) else (none)))) else (none)) else (none)) else (none))) else (none)) = some r := by first | (rw [hy236]; with_reducible exact H) | (have H2_ := (Option.bind_some _ _).symm.trans H; rw [hy236]; with_reducible exact H2_) | (have H2_ := (Option.bind_some _ _).symm.trans H; with_reducible exact H2_) | with_reducible exact H | (rw [hy236]; exact H) | exact H
                        have Ny236 := Aside0.mk hy236
                        clear hy236
                        by_cases c79 : y233.length + y236.length < 2199023255552
                        · rw [if_pos c79] at H
                          have LMc79 := Aside0.mk c79
                          clear c79
                          obtain ⟨y240, hy240⟩ : ∃ y_ : List (S51), y_ = (y233 ++ y236) := ⟨_, rfl⟩
                          replace H : (if 0 ≤ x9_2 then (if x9_2 < (x3_1.length : Int) then (if y240.length < 2199023255552 then ((some (y240 ++ [(⟨(⟨(rd_T51 x3_1 x9_2).f0.f0, (rd_T51 x3_1 x9_2).f0.f1, (rd_T51 x3_1 x9_2).f0.f2⟩ : S25), (rd_T51 x3_1 x9_2).f1, (rd_T51 x3_1 x9_2).f2⟩ : S51)] : List (S51))).bind fun y244 => ((some (x8_2.drop (x10_3 : Int).toNat : List (S51))).bind fun y247 => (if y244.length + y247.length < 2199023255552 then (porterref22_Rows.l2 k3 x3_1 (y244 ++ y247) (wrap64 (x9_2 + 1))) else (none)))) else (none)) else (none)) else (none)) = some r := by first | (rw [hy240]; with_reducible exact H) | (have H2_ := (Option.bind_some _ _).symm.trans H; rw [hy240]; with_reducible exact H2_) | (have H2_ := (Option.bind_some _ _).symm.trans H; with_reducible exact H2_) | with_reducible exact H | (rw [hy240]; exact H) | exact H
                          have Ny240 := Aside0.mk hy240
                          clear hy240
                          by_cases c80 : 0 ≤ x9_2
                          · rw [if_pos c80] at H
                            have c80b0 : decide (0 ≤ x9_2) = true := decide_eq_true c80
                            clear c80
                            by_cases c81 : x9_2 < (x3_1.length : Int)
                            · rw [if_pos c81] at H
                              have c81b0 : decide (x9_2 < (x3_1.length : Int)) = true := decide_eq_true c81
                              clear c81
                              by_cases c82 : y240.length < 2199023255552
                              · rw [if_pos c82] at H
                                have LMc82 := Aside0.mk c82
                                clear c82
                                obtain ⟨y244, hy244⟩ : ∃ y_ : List (S51), y_ = (y240 ++ [(⟨(⟨(rd_T51 x3_1 x9_2).f0.f0, (rd_T51 x3_1 x9_2).f0.f1, (rd_T51 x3_1 x9_2).f0.f2⟩ : S25), (rd_T51 x3_1 x9_2).f1, (rd_T51 x3_1 x9_2).f2⟩ : S51)]) := ⟨_, rfl⟩
                                replace H : ((some (x8_2.drop (x10_3 : Int).toNat : List (S51))).bind fun y247 => (if y244.length + y247.length < 2199023255552 then (porterref22_Rows.l2 k3 x3_1 (y244 ++ y247) (wrap64 (x9_2 + 1))) else (none))) = some r := by first | (rw [hy244]; with_reducible exact H) | (have H2_ := (Option.bind_some _ _).symm.trans H; rw [hy244]; with_reducible exact H2_) | (have H2_ := (Option.bind_some _ _).symm.trans H; with_reducible exact H2_) | with_reducible exact H | (rw [hy244]; exact H) | exact H
                                have Ny244 := Aside0.mk hy244
                                clear hy244
                                have c83b0 := eq_true (of_decide_eq_true (by first | (with_reducible assumption) | assumption) : 0 ≤ x10_3)
                                have c84b0 := eq_true (of_decide_eq_true (by first | (with_reducible assumption) | assumption) : x10_3 ≤ (x8_2.length : Int))
                                obtain ⟨y247, hy247⟩ : ∃ y_ : List (S51), y_ = (x8_2.drop (x10_3 : Int).toNat) := ⟨_, rfl⟩
                                replace H : (if y244.length + y247.length < 2199023255552 then (porterref22_Rows.l2 k3 x3_1 (y244 ++ y247) (wrap64 (x9_2 + 1))) else (none)) = some r := by first | (rw [hy247]; with_reducible exact H) | (have H2_ := (Option.bind_some _ _).symm.trans H; rw [hy247]; with_reducible exact H2_) | (have H2_ := (Option.bind_some _ _).symm.trans H; with_reducible exact H2_) | with_reducible exact H | (rw [hy247]; exact H) | exact H
                                have Ny247 := Aside0.mk hy247
                                clear hy247
                                by_cases c85 : y244.length + y247.length < 2199023255552
                                · rw [if_pos c85] at H
                                  have LMc85 := Aside0.mk c85
                                  clear c85
                                  obtain ⟨y251, hy251⟩ : ∃ y_ : List (S51), y_ = (y244 ++ y247) := ⟨_, rfl⟩
                                  replace H : (porterref22_Rows.l2 k3 x3_1 y251 (wrap64 (x9_2 + 1))) = some r := by first | (rw [hy251]; with_reducible exact H) | (have H2_ := (Option.bind_some _ _).symm.trans H; rw [hy251]; with_reducible exact H2_) | (have H2_ := (Option.bind_some _ _).symm.trans H; with_reducible exact H2_) | with_reducible exact H | (rw [hy251]; exact H) | exact H
                                  have Ny251 := Aside0.mk hy251
                                  clear hy251
                                  have H' := Aside0.mk H
                                  clear H
                                  try go_wp2
                                  have n0_ := Aside0.mk (Kd.R_drew HO_3.out)
                                  have n1_ := Aside0.mk (Kd.R_drew HO_8.out)
                                  have n2_ := Aside0.mk (below_drew1 HB.out)
                                  clear HO_3
                                  clear HO_8
                                  clear HB
                                  have HO_3 := n0_
                                  have HO_8 := n1_
                                  have HB := n2_
                                  clear n0_ n1_ n2_
                                  refine start_ (n := 14) (S := fun w' => True) (ds := []) #[false, false, false, false, false, false, false, false, false, false, false, false, false, false] (by kernel_rfl) rfl rfl trivial (fun hHeld => ?_); refine with_tabW porterref22_Rows.tab21 porterref22_Rows.bits21 (fun HT_ HW_ => ?_)
                                  generalize wr.drew = w86 at HO_3 HO_8 HB hHeld ⊢
                                  refine pure_ (i := 0) (N := some 80) (v := ?_) (a' := ?_) #[true, false, false, false, false, false, false, false, false, false, false, false, false, false] rfl rfl (any_of HT_.out (by kernel_rfl)) (fun _ _ _ h => h) (Or.inl ⟨by rfl, ?_⟩) ?_ ?_
                                  rotate_left
                                  · intro w'
                                    go_simp
                                    with_reducible rfl
                                  rotate_left
                                  · simp only [Act.put, List.setIfInBounds_toArray, List.set_cons_zero, List.set_cons_succ, i64_w, i32_w]
                                    rfl
                                  refine pure_ (i := 1) (N := some 81) (v := ?_) (a' := ?_) #[true, true, false, false, false, false, false, false, false, false, false, false, false, false] rfl rfl (any_of HT_.out (by kernel_rfl)) (fun _ _ _ h => h) (Or.inl ⟨by rfl, ?_⟩) ?_ ?_
                                  rotate_left
                                  · intro w'
                                    go_simp
                                    with_reducible rfl
                                  rotate_left
                                  · simp only [Act.put, List.setIfInBounds_toArray, List.set_cons_zero, List.set_cons_succ, i64_w, i32_w]
                                    rfl
                                  refine pure_ (i := 2) (N := some 82) (v := ?_) (a' := ?_) #[true, true, true, false, false, false, false, false, false, false, false, false, false, false] rfl rfl (any_of HT_.out (by kernel_rfl)) (fun _ _ _ h => h) (Or.inl ⟨by rfl, ?_⟩) ?_ ?_
                                  rotate_left
                                  · intro w'
                                    go_simp
                                    with_reducible rfl
                                  rotate_left
                                  · simp only [Act.put, List.setIfInBounds_toArray, List.set_cons_zero, List.set_cons_succ, i64_w, i32_w]
                                    rfl
                                  refine pure_ (i := 3) (N := some 83) (v := undef) (a' := ?_) #[true, true, true, true, false, false, false, false, false, false, false, false, false, false] rfl rfl (any_of HT_.out (by kernel_rfl)) (fun _ _ _ h => h) (Or.inr ⟨by rfl, rfl⟩) ?_ ?_
                                  rotate_left
                                  · simp only [Act.put, List.setIfInBounds_toArray, List.set_cons_zero, List.set_cons_succ, i64_w, i32_w]
                                    rfl
                                  refine pure_ (i := 4) (N := some 84) (v := undef) (a' := ?_) #[true, true, true, true, true, false, false, false, false, false, false, false, false, false] rfl rfl (any_of HT_.out (by kernel_rfl)) (fun _ _ _ h => h) (Or.inr ⟨by rfl, rfl⟩) ?_ ?_
                                  rotate_left
                                  · simp only [Act.put, List.setIfInBounds_toArray, List.set_cons_zero, List.set_cons_succ, i64_w, i32_w]
                                    rfl
                                  refine pure_ (i := 5) (N := some 85) (v := undef) (a' := ?_) #[true, true, true, true, true, true, false, false, false, false, false, false, false, false] rfl rfl (any_of HT_.out (by kernel_rfl)) (fun _ _ _ h => h) (Or.inr ⟨by rfl, rfl⟩) ?_ ?_
                                  rotate_left
                                  · simp only [Act.put, List.setIfInBounds_toArray, List.set_cons_zero, List.set_cons_succ, i64_w, i32_w]
                                    rfl
                                  refine pure_ (i := 6) (N := some 86) (v := undef) (a' := ?_) #[true, true, true, true, true, true, true, false, false, false, false, false, false, false] rfl rfl (any_of HT_.out (by kernel_rfl)) (fun _ _ _ h => h) (Or.inr ⟨by rfl, rfl⟩) ?_ ?_
                                  rotate_left
                                  · simp only [Act.put, List.setIfInBounds_toArray, List.set_cons_zero, List.set_cons_succ, i64_w, i32_w]
                                    rfl
                                  refine pure_ (i := 7) (N := some 87) (v := undef) (a' := ?_) #[true, true, true, true, true, true, true, true, false, false, false, false, false, false] rfl rfl (any_of HT_.out (by kernel_rfl)) (fun _ _ _ h => h) (Or.inr ⟨by rfl, rfl⟩) ?_ ?_
                                  rotate_left
                                  · simp only [Act.put, List.setIfInBounds_toArray, List.set_cons_zero, List.set_cons_succ, i64_w, i32_w]
                                    rfl
                                  refine pure_ (i := 8) (N := some 88) (v := undef) (a' := ?_) #[true, true, true, true, true, true, true, true, true, false, false, false, false, false] rfl rfl (any_of HT_.out (by kernel_rfl)) (fun _ _ _ h => h) (Or.inr ⟨by rfl, rfl⟩) ?_ ?_
                                  rotate_left
                                  · simp only [Act.put, List.setIfInBounds_toArray, List.set_cons_zero, List.set_cons_succ, i64_w, i32_w]
                                    rfl
                                  refine pure_ (i := 9) (N := some 89) (v := undef) (a' := ?_) #[true, true, true, true, true, true, true, true, true, true, false, false, false, false] rfl rfl (any_of HT_.out (by kernel_rfl)) (fun _ _ _ h => h) (Or.inr ⟨by rfl, rfl⟩) ?_ ?_
                                  rotate_left
                                  · simp only [Act.put, List.setIfInBounds_toArray, List.set_cons_zero, List.set_cons_succ, i64_w, i32_w]
                                    rfl
                                  refine pure_ (i := 10) (N := some 90) (v := undef) (a' := ?_) #[true, true, true, true, true, true, true, true, true, true, true, false, false, false] rfl rfl (any_of HT_.out (by kernel_rfl)) (fun _ _ _ h => h) (Or.inr ⟨by rfl, rfl⟩) ?_ ?_
                                  rotate_left
                                  · simp only [Act.put, List.setIfInBounds_toArray, List.set_cons_zero, List.set_cons_succ, i64_w, i32_w]
                                    rfl
                                  refine pure_ (i := 11) (N := some 91) (v := undef) (a' := ?_) #[true, true, true, true, true, true, true, true, true, true, true, true, false, false] rfl rfl (any_of HT_.out (by kernel_rfl)) (fun _ _ _ h => h) (Or.inr ⟨by rfl, rfl⟩) ?_ ?_
                                  rotate_left
                                  · simp only [Act.put, List.setIfInBounds_toArray, List.set_cons_zero, List.set_cons_succ, i64_w, i32_w]
                                    rfl
                                  refine pure_ (i := 12) (N := some 92) (v := undef) (a' := ?_) #[true, true, true, true, true, true, true, true, true, true, true, true, true, false] rfl rfl (any_of HT_.out (by kernel_rfl)) (fun _ _ _ h => h) (Or.inr ⟨by rfl, rfl⟩) ?_ ?_
                                  rotate_left
                                  · simp only [Act.put, List.setIfInBounds_toArray, List.set_cons_zero, List.set_cons_succ, i64_w, i32_w]
                                    rfl
                                  refine pure_ (i := 13) (N := some 93) (v := ?_) (a' := ?_) #[true, true, true, true, true, true, true, true, true, true, true, true, true, true] rfl rfl (any_of HT_.out (by kernel_rfl)) (fun _ _ _ h => h) (Or.inl ⟨by rfl, ?_⟩) ?_ ?_
                                  rotate_left
                                  · intro w'
                                    go_simp
                                    with_reducible rfl
                                  rotate_left
                                  · simp only [Act.put, List.setIfInBounds_toArray, List.set_cons_zero, List.set_cons_succ, i64_w, i32_w]
                                    rfl
                                  refine done_ (done_of HT_.out (by kernel_rfl)) ?_
                                  try go_wp2_with (first | ((with_reducible refine gate_dst (N := 96) rfl ?_); refine Kd.R_lit k51 _ 51 ?hg (N := 96) ?hd (xs := ([] : List (S51))) (inner := []) (ok := fun _ => True) (okp := fun _ => True) ?hr ?hp (fun _ hk => hk) trivial (Below.refl _ _) (Nat.le_refl _) (by simp) ?_; (case hd => rfl); (case hg => rfl); (case hr => first | (go_simp; done) | (go_simp; rfl)); (case hp => exact (Reps.none _ _)); intro v234 w87 ho88 hb hg_ hnew_; clear hg_ hnew_; (first | rw [← Ny233.out] at ho88 | (simp only [Int.reduceToNat] at ho88; rw [← Ny233.out] at ho88)); have n0_ := Aside0.mk (Kd.R_elder' (by (with_reducible repeat (first | apply Kd.R_alloc | apply Kd.R_drewN | apply Kd.R_drew)); exact HO_3.out) (Kd.R_base ho88) hb); have n1_ := Aside0.mk (Kd.R_elder' (by (with_reducible repeat (first | apply Kd.R_alloc | apply Kd.R_drewN | apply Kd.R_drew)); exact HO_8.out) (Kd.R_base ho88) hb); have n2_ := Aside0.mk (Kd.R_lower (Kd.R_new' (Kd.R_new' ho88 (Kd.R_lt (by (with_reducible repeat (first | apply Kd.R_alloc | apply Kd.R_drewN | apply Kd.R_drew)); exact HO_3.out))) (Kd.R_lt (by (with_reducible repeat (first | apply Kd.R_alloc | apply Kd.R_drewN | apply Kd.R_drew)); exact HO_8.out))) (below_size (by repeat (first | (with_reducible first | exact HB.out | apply below_alloc | apply pw_below_drewN | apply below_drew1) | exact HB.out)))); have n3_ := Aside0.mk (below_step (by repeat (first | (with_reducible first | exact HB.out | apply below_alloc | apply pw_below_drewN | apply below_drew1) | exact HB.out)) hb); clear HO_3; clear HO_8; clear HB; have HO_3 := n0_; have HO_8 := n1_; have HO235 := n2_; have HB := n3_; clear n0_ n1_ n2_ n3_; clear hb ho88; have q89 : (x10_3 : Int) ≤ ((x8_2.length : Int) : Int) := of_decide_eq_true (by first | (with_reducible assumption) | assumption); obtain ⟨i089, hi089, _, hsz89, _⟩ := info_parts info51; have hroom89 : x8_2.length ≤ co50 := (Kd.R_reads' HO_8.out).2.1; have hC89 : Kd.C k51 _ Ao50 x8_2.length x8_2 := (Kd.R_reads' HO_8.out).2.2; have hcut89 := cut_to (P := Try.prog) 30 51 .i64 Try.underlying30 hi089 Ao50 x8_2.length co50 x10_3 (of_decide_eq_true (by first | (with_reducible assumption) | assumption)) q89 hroom89; have hr89 := Kd.C_take (m := (x10_3 : Int).toNat) hC89 (by omega); have hy89 : y236.length = (x10_3 : Int).toNat := (by rw [Ny236.out, List.length_take]; omega); rw [← Ny236.out] at hr89; rw [← hy89] at hcut89; have HR239 := Aside0.mk hr89; have HC239 := Aside0.mk (show y236.length ≤ co50 from by omega); clear hr89 hC89 hroom89 hi089 hsz89; have KY89 := Aside0.mk hy89; clear hy89; have KL89 := Aside0.mk (show (x10_3 : Int).toNat ≤ x8_2.length from by omega); replace q89 := eq_true q89) | ((with_reducible refine gate_builtin (b := .append) (xs := #[.tmp 96, .tmp 99]) rfl ?_); at_builtin; refine Kd.R_append_rows k51 (w0 := w) w.heap.size rfl (.tmp 96) (.tmp 99) 30 51 (.agg #[(.string ⟨#[]⟩), (.string ⟨#[]⟩), (.string ⟨#[]⟩), (.int .i64 0), (.int .i64 0)]) 64 rfl Try.underlying30 info51 rfl (by decide) (by omega) v234 y233 y236 _ _ _ (fun k_ => some k_ ≠ (.slice Ao49 x3_1.length co49 : Value).ownBlock ∧ some k_ ≠ (.slice Ao50 x8_2.length co50 : Value).ownBlock) (fun _ => False) rfl rfl ?aO ?aR (fun _ _ h => h) (fun _ h => h.elim) ?aF ?aB ?aS ?aL ?_; (case aR => repeat (first | exact (by repeat (first | (with_reducible exact HR239.out) | (with_reducible refine Kd.C_alloc ?_ _) | (with_reducible refine Kd.C_drewN ?_ _) | (with_reducible refine Kd.C_drew ?_) | exact HR239.out)) | (with_reducible refine Kd.C_alloc ?_ _) | (with_reducible refine Kd.C_drewN ?_ _) | (with_reducible refine Kd.C_drew ?_))); (case aB => exact (by repeat (first | (with_reducible first | exact HB.out | apply below_alloc | apply pw_below_drewN | apply below_drew1) | exact HB.out))); (case aF => exact (fun k_ hk => ⟨Kd.fresh' (Kd.R_lt (by (with_reducible repeat (first | apply Kd.R_alloc | apply Kd.R_drewN | apply Kd.R_drew)); exact HO_3.out)) k_ hk, Kd.fresh' (Kd.R_lt (by (with_reducible repeat (first | apply Kd.R_alloc | apply Kd.R_drewN | apply Kd.R_drew)); exact HO_8.out)) k_ hk⟩)); (case aO => exact (by (with_reducible repeat (first | apply Kd.R_alloc | apply Kd.R_drewN | apply Kd.R_drew)); exact Kd.R_mono HO235.out (fun _ hk => ⟨hk.1.2, hk.2⟩))); (case aS => exact (below_size (by repeat (first | (with_reducible first | exact HB.out | apply below_alloc | apply pw_below_drewN | apply below_drew1) | exact HB.out)))); (case aL => have := LMc79.out; omega); intro v241 w90 ho hb hg hat; rw [← Ny240.out] at ho; have n0_ := Aside0.mk (Kd.R_after (ok := (fun k_ => some k_ ≠ (.slice Ao50 x8_2.length co50 : Value).ownBlock)) (by (with_reducible repeat (first | apply Kd.R_alloc | apply Kd.R_drewN | apply Kd.R_drew)); exact HO_3.out) hg hat); have n1_ := Aside0.mk (Kd.R_after (ok := (fun k_ => some k_ ≠ (.slice Ao49 x3_1.length co49 : Value).ownBlock)) (by (with_reducible repeat (first | apply Kd.R_alloc | apply Kd.R_drewN | apply Kd.R_drew)); exact HO_8.out) hg hat); have n2_ := Aside0.mk (hb); have n3_ := Aside0.mk ((show Kd.C k51 w90 Ao50 y236.length y236 from by rw [Ny236.out]; exact Kd.C_take (m := (x10_3 : Int).toNat) ((Kd.R_reads' (Kd.R_after (ok := (fun k_ => some k_ ≠ (.slice Ao49 x3_1.length co49 : Value).ownBlock)) (by (with_reducible repeat (first | apply Kd.R_alloc | apply Kd.R_drewN | apply Kd.R_drew)); exact HO_8.out) hg hat)).2.2) KL89.out)); have n4_ := Aside0.mk (ho); clear HO_3; clear HO_8; clear HB; clear HR239; clear HO235; have HO_3 := n0_; have HO_8 := n1_; have HB := n2_; have HR239 := n3_; have HO242 := n4_; clear n0_ n1_ n2_ n3_ n4_; clear ho hb hg hat; have p243 : 0 ≤ (x9_2 : Int) := of_decide_eq_true (by first | (with_reducible assumption) | assumption); have q243 : x9_2 < (x3_1.length : Int) := of_decide_eq_true (by first | (with_reducible assumption) | assumption); obtain ⟨ad243, e243, hx243_0, hx243_1, hx243_2, hx243_3, hx243_4⟩ := at_T51 (Kd.R_reads' HO_3.out).2.2 x9_2 p243 q243; cases e243; replace p243 := eq_true p243; replace q243 := eq_true q243) | ((with_reducible refine gate_builtin (b := .append) (xs := #[.tmp 101, .tmp 106]) rfl ?_); at_builtin; refine Kd.R_append k51 (w0 := w) w.heap.size rfl (.tmp 101) (.tmp 106) 30 51 (.agg #[(.string ⟨#[]⟩), (.string ⟨#[]⟩), (.string ⟨#[]⟩), (.int .i64 0), (.int .i64 0)]) 64 rfl Try.underlying30 info51 rfl (by decide) (by omega) v241 y240 (⟨(⟨(rd_T51 x3_1 x9_2).f0.f0, (rd_T51 x3_1 x9_2).f0.f1, (rd_T51 x3_1 x9_2).f0.f2⟩ : S25), (rd_T51 x3_1 x9_2).f1, (rd_T51 x3_1 x9_2).f2⟩ : S51) [.string ((rd_T51 x3_1 x9_2).f0.f0), .string ((rd_T51 x3_1 x9_2).f0.f1), .string ((rd_T51 x3_1 x9_2).f0.f2), .int .i64 ((rd_T51 x3_1 x9_2).f1), .int .i64 ((rd_T51 x3_1 x9_2).f2)] (fun k_ => some k_ ≠ (.slice (some ad243) x3_1.length co49 : Value).ownBlock ∧ some k_ ≠ (.slice Ao50 x8_2.length co50 : Value).ownBlock) (fun _ => False) rfl rfl ?aP (fun _ hk => hk.elim) ?aF ?aO ?aB ?aS ?aL ?_; (case aP => exact k51_mkM _ _ _ (⟨(⟨(rd_T51 x3_1 x9_2).f0.f0, (rd_T51 x3_1 x9_2).f0.f1, (rd_T51 x3_1 x9_2).f0.f2⟩ : S25), (rd_T51 x3_1 x9_2).f1, (rd_T51 x3_1 x9_2).f2⟩ : S51)); (case aB => exact (by repeat (first | (with_reducible first | exact HB.out | apply below_alloc | apply pw_below_drewN | apply below_drew1) | exact HB.out))); (case aF => exact (fun k_ hk => ⟨Kd.fresh' (Kd.R_lt (by (with_reducible repeat (first | apply Kd.R_alloc | apply Kd.R_drewN | apply Kd.R_drew)); exact HO_3.out)) k_ hk, Kd.fresh' (Kd.R_lt (by (with_reducible repeat (first | apply Kd.R_alloc | apply Kd.R_drewN | apply Kd.R_drew)); exact HO_8.out)) k_ hk⟩)); (case aO => exact (by (with_reducible repeat (first | apply Kd.R_alloc | apply Kd.R_drewN | apply Kd.R_drew)); exact HO242.out)); (case aS => exact (below_size (by repeat (first | (with_reducible first | exact HB.out | apply below_alloc | apply pw_below_drewN | apply below_drew1) | exact HB.out)))); (case aL => have := LMc82.out; omega); intro v245 w91 ho hb hg hat; rw [← Ny244.out] at ho; have n0_ := Aside0.mk (Kd.R_after (ok := (fun k_ => some k_ ≠ (.slice Ao50 x8_2.length co50 : Value).ownBlock)) (by (with_reducible repeat (first | apply Kd.R_alloc | apply Kd.R_drewN | apply Kd.R_drew)); exact HO_3.out) hg hat); have n1_ := Aside0.mk (Kd.R_after (ok := (fun k_ => some k_ ≠ (.slice (some ad243) x3_1.length co49 : Value).ownBlock)) (by (with_reducible repeat (first | apply Kd.R_alloc | apply Kd.R_drewN | apply Kd.R_drew)); exact HO_8.out) hg hat); have n2_ := Aside0.mk (hb); have n3_ := Aside0.mk ((show Kd.C k51 w91 Ao50 y236.length y236 from by rw [Ny236.out]; exact Kd.C_take (m := (x10_3 : Int).toNat) ((Kd.R_reads' (Kd.R_after (ok := (fun k_ => some k_ ≠ (.slice (some ad243) x3_1.length co49 : Value).ownBlock)) (by (with_reducible repeat (first | apply Kd.R_alloc | apply Kd.R_drewN | apply Kd.R_drew)); exact HO_8.out) hg hat)).2.2) KL89.out)); have n4_ := Aside0.mk (ho); clear HO_3; clear HO_8; clear HB; clear HR239; clear HO242; have HO_3 := n0_; have HO_8 := n1_; have HB := n2_; have HR239 := n3_; have HO246 := n4_; clear n0_ n1_ n2_ n3_ n4_; clear ho hb hg hat; have q92 : (x10_3 : Int) ≤ ((x8_2.length : Int) : Int) := of_decide_eq_true (by first | (with_reducible assumption) | assumption); obtain ⟨i092, hi092, _, hsz92, _⟩ := info_parts info51; have hroom92 : x8_2.length ≤ co50 := (Kd.R_reads' HO_8.out).2.1; have hC92 : Kd.C k51 _ Ao50 x8_2.length x8_2 := (Kd.R_reads' HO_8.out).2.2; have q092 : (0 : Int) ≤ (x10_3 : Int) := of_decide_eq_true (by first | (with_reducible assumption) | assumption); have hcut92 := cut_from (P := Try.prog) 30 51 .i64 Try.underlying30 hi092 5 hsz92 Ao50 x8_2.length co50 x10_3 q092 q92; have hr92 := Kd.C_drop (m := (x10_3 : Int).toNat) (c := co50) hC92 (by omega) hroom92; obtain ⟨A92, hA92⟩ : ∃ A1, A1 = (if co50 = (x10_3 : Int).toNat then Ao50 else (Ao50 : Option Addr).map (·.add ((x10_3 : Int).toNat * 5))) := ⟨_, rfl⟩; obtain ⟨c92, hc92⟩ : ∃ c1, c1 = co50 - (x10_3 : Int).toNat := ⟨_, rfl⟩; have hy92 : y247.length = x8_2.length - (x10_3 : Int).toNat := (by rw [Ny247.out, List.length_drop] <;> omega); rw [show (x8_2).drop (x10_3 : Int).toNat = y247 from Ny247.out.symm] at hr92; replace hr92 : Kd.C k51 _ A92 y247.length y247 := (by rw [hA92]; exact hr92); rw [← hy92, ← hA92, ← hc92] at hcut92; have HR250 := Aside0.mk hr92; have HC250 := Aside0.mk (show y247.length ≤ c92 from by rw [hy92, hc92]; exact Nat.sub_le_sub_right hroom92 _); clear hr92 hC92 hroom92 hi092 hsz92 hc92; have KY92 := Aside0.mk hy92; have KA92 := Aside0.mk hA92; clear hy92 hA92; have KL92 := Aside0.mk (show (x10_3 : Int).toNat ≤ x8_2.length from by omega); replace q92 := eq_true q92) | ((with_reducible refine gate_builtin (b := .append) (xs := #[.tmp 108, .tmp 111]) rfl ?_); at_builtin; refine Kd.R_append_rows k51 (w0 := w) w.heap.size rfl (.tmp 108) (.tmp 111) 30 51 (.agg #[(.string ⟨#[]⟩), (.string ⟨#[]⟩), (.string ⟨#[]⟩), (.int .i64 0), (.int .i64 0)]) 64 rfl Try.underlying30 info51 rfl (by decide) (by omega) v245 y244 y247 _ _ _ (fun k_ => some k_ ≠ (.slice (some ad243) x3_1.length co49 : Value).ownBlock ∧ some k_ ≠ (.slice Ao50 x8_2.length co50 : Value).ownBlock) (fun _ => False) rfl rfl ?aO ?aR (fun _ _ h => h) (fun _ h => h.elim) ?aF ?aB ?aS ?aL ?_; (case aR => repeat (first | exact (by repeat (first | (with_reducible exact HR250.out) | (with_reducible refine Kd.C_alloc ?_ _) | (with_reducible refine Kd.C_drewN ?_ _) | (with_reducible refine Kd.C_drew ?_) | exact HR250.out)) | (with_reducible refine Kd.C_alloc ?_ _) | (with_reducible refine Kd.C_drewN ?_ _) | (with_reducible refine Kd.C_drew ?_))); (case aB => exact (by repeat (first | (with_reducible first | exact HB.out | apply below_alloc | apply pw_below_drewN | apply below_drew1) | exact HB.out))); (case aF => exact (fun k_ hk => ⟨Kd.fresh' (Kd.R_lt (by (with_reducible repeat (first | apply Kd.R_alloc | apply Kd.R_drewN | apply Kd.R_drew)); exact HO_3.out)) k_ hk, Kd.fresh' (Kd.R_lt (by (with_reducible repeat (first | apply Kd.R_alloc | apply Kd.R_drewN | apply Kd.R_drew)); exact HO_8.out)) k_ hk⟩)); (case aO => exact (by (with_reducible repeat (first | apply Kd.R_alloc | apply Kd.R_drewN | apply Kd.R_drew)); exact HO246.out)); (case aS => exact (below_size (by repeat (first | (with_reducible first | exact HB.out | apply below_alloc | apply pw_below_drewN | apply below_drew1) | exact HB.out)))); (case aL => have := LMc85.out; omega); intro v252 w93 ho hb hg hat; rw [← Ny251.out] at ho; have n0_ := Aside0.mk (Kd.R_after (ok := (fun k_ => some k_ ≠ (.slice Ao50 x8_2.length co50 : Value).ownBlock)) (by (with_reducible repeat (first | apply Kd.R_alloc | apply Kd.R_drewN | apply Kd.R_drew)); exact HO_3.out) hg hat); have n1_ := Aside0.mk (Kd.R_after (ok := (fun k_ => some k_ ≠ (.slice (some ad243) x3_1.length co49 : Value).ownBlock)) (by (with_reducible repeat (first | apply Kd.R_alloc | apply Kd.R_drewN | apply Kd.R_drew)); exact HO_8.out) hg hat); have n2_ := Aside0.mk (hb); have n3_ := Aside0.mk ((show Kd.C k51 w93 Ao50 y236.length y236 from by rw [Ny236.out]; exact Kd.C_take (m := (x10_3 : Int).toNat) ((Kd.R_reads' (Kd.R_after (ok := (fun k_ => some k_ ≠ (.slice (some ad243) x3_1.length co49 : Value).ownBlock)) (by (with_reducible repeat (first | apply Kd.R_alloc | apply Kd.R_drewN | apply Kd.R_drew)); exact HO_8.out) hg hat)).2.2) KL89.out)); have n4_ := Aside0.mk ((show Kd.C k51 w93 A92 y247.length y247 from by rw [Ny247.out, KA92.out]; exact Kd.C_drop (m := (x10_3 : Int).toNat) (c := co50) ((Kd.R_reads' (Kd.R_after (ok := (fun k_ => some k_ ≠ (.slice (some ad243) x3_1.length co49 : Value).ownBlock)) (by (with_reducible repeat (first | apply Kd.R_alloc | apply Kd.R_drewN | apply Kd.R_drew)); exact HO_8.out) hg hat)).2.2) KL92.out ((Kd.R_reads' (Kd.R_after (ok := (fun k_ => some k_ ≠ (.slice (some ad243) x3_1.length co49 : Value).ownBlock)) (by (with_reducible repeat (first | apply Kd.R_alloc | apply Kd.R_drewN | apply Kd.R_drew)); exact HO_8.out) hg hat)).2.1))); have n5_ := Aside0.mk (ho); clear HO_3; clear HO_8; clear HB; clear HR239; clear HR250; clear HO246; have HO_3 := n0_; have HO_8 := n1_; have HB := n2_; have HR239 := n3_; have HR250 := n4_; have HO253 := n5_; clear n0_ n1_ n2_ n3_ n4_ n5_; clear ho hb hg hat))
                                  go_roundg k3
                                  case measure => have := HK1.out; have := HK2.out; have := HK3.out; omega
                                  case rel => exact ⟨(y251), (wrap64 (x9_2 + 1)), (by first | rfl | (simp; done) | (simp [*]; done)), H', ⟨by have := HK1.out; have := HK2.out; have := HK3.out; omega⟩, ⟨by (with_reducible repeat (first | apply Kd.R_alloc | apply Kd.R_drewN | apply Kd.R_drew)); exact Kd.R_mono HO_3.out (fun _ hk => hk.2)⟩, ⟨by (with_reducible repeat (first | apply Kd.R_alloc | apply Kd.R_drewN | apply Kd.R_drew)); exact Kd.R_mono HO253.out (fun _ hk => hk.1)⟩, ⟨by repeat (first | (with_reducible first | exact HB.out | apply below_alloc | apply pw_below_drewN | apply below_drew1) | exact HB.out)⟩⟩
                                · rw [if_neg c85] at H
                                  exact absurd H (by simp)
                              · rw [if_neg c82] at H
                                exact absurd H (by simp)
                            · rw [if_neg c81] at H
                              exact absurd H (by simp)
                          · rw [if_neg c80] at H
                            exact absurd H (by simp)
                        · rw [if_neg c79] at H
                          exact absurd H (by simp)
                      · rw [if_neg c78] at H
                        exact absurd H (by simp)
                    · rw [if_neg c77] at H
                      exact absurd H (by simp)
            · rw [if_neg c48] at H
              have c48b0 : decide (x9_2 < (x3_1.length : Int)) = false := decide_eq_false c48
              clear c48
              obtain rfl := Option.some.inj H
              obtain ⟨Ao94, co94, eo94⟩ := Kd.R_slice HO_3.out
              subst eo94
              go_wp2
              go_ret
              exact ⟨_, by first | rfl | (simp [errW_none, errW_some] <;> rfl) | (simp [*, errW_none, errW_some] <;> rfl), by (with_reducible repeat (first | apply Kd.R_alloc | apply Kd.R_drewN | apply Kd.R_drew)); exact Kd.R_mono HO_8.out (fun _ hk => trivial), by repeat (first | (with_reducible first | exact HB.out | apply below_alloc | apply pw_below_drewN | apply below_drew1) | exact HB.out)⟩

end Go.Proofs.Ytgjkidclpehnjaa.Pr

namespace Go.Proofs.Ytgjkidclpehnjaa.Pr
open Go.Proofs.Ytgjkidclpehnjaa Go.Sort Go.RowKit

theorem rdRo_mid (A : List Ro) (x : Ro) (B : List Ro) : rd_T51 (A ++ x :: B) (A.length : Int) = x := by simp [rd_T51]
theorem before_eq (a b : Ro) : porterref07_Before.f a.f0.f0 a.f0.f1 a.f0.f2 a.f1 a.f2 b.f0.f0 b.f0.f1 b.f0.f2 b.f1 b.f2 = some (ltRo a b) := by
  unfold porterref07_Before.f
  have e : ((!(a.f0.f0.toList == b.f0.f0.toList) || (!(a.f0.f1.toList == b.f0.f1.toList) || !(a.f0.f2.toList == b.f0.f2.toList))) = true) = (a.f0 ≠ b.f0) := by
    rw [← Bool.not_and, ← Bool.not_and, eqx_T]; simp
  by_cases h : a.f0 = b.f0
  · rw [if_neg (by rw [e]; exact fun h' => h' h)]
    unfold ltRo ltOf cmpRo lexi
    rw [if_pos (cmpT_zero.2 h)]
    simp only [compareInt_neg]
  · rw [if_pos (by rw [e]; exact h), less_eq]
    unfold ltRo ltOf cmpRo lexi ltT ltOf
    rw [if_neg (fun q => h (cmpT_zero.1 q))]; rfl

/-- At most one open row for each tuple. -/
def One (out : List Ro) : Prop := out.Pairwise (fun a b => ¬ (a.f0 = b.f0 ∧ a.f2 = 0 ∧ b.f2 = 0))
theorem openAt_iff {t : T} {r : Ro} : openAt t r = true ↔ r.f0 = t ∧ r.f2 = 0 := by unfold openAt; exact decide_eq_true_iff
theorem One.map {out : List Ro} (h : One out) (t : T) (x : Int) : One (out.map (fun r => if openAt t r = true then ⟨r.f0, r.f1, x⟩ else r)) := by
  unfold One
  rw [List.pairwise_map]
  refine h.imp ?_
  intro a b hab hq
  apply hab
  have key : ∀ r : Ro, (if openAt t r = true then (⟨r.f0, r.f1, x⟩ : Ro) else r).f0 = r.f0 ∧ ((if openAt t r = true then (⟨r.f0, r.f1, x⟩ : Ro) else r).f2 = 0 → r.f2 = 0) := by
    intro r
    by_cases ho : openAt t r = true
    · rw [if_pos ho]; exact ⟨rfl, fun _ => (openAt_iff.1 ho).2⟩
    · rw [if_neg ho]; exact ⟨rfl, id⟩
  rw [(key a).1, (key b).1] at hq
  exact ⟨hq.1, (key a).2 hq.2.1, (key b).2 hq.2.2⟩
theorem One.snoc {out : List Ro} (h : One out) (t : T) (x : Int) (hn : out.any (openAt t) = false) : One (out ++ [⟨t, x, 0⟩]) := by
  refine List.pairwise_append.2 ⟨h, by simp, ?_⟩
  intro a ha b hb
  simp at hb
  subst hb
  rintro ⟨h1, h2, _⟩
  have := List.any_eq_false.1 hn a ha
  exact this (openAt_iff.2 ⟨h1, h2⟩)
theorem One.next {out : List Ro} (h : One out) (c : Ch) : One (rowsDo out c) := by
  unfold rowsDo
  split
  · split
    · exact h.map _ _
    · exact h
  · rename_i hn
    split
    · exact h
    · exact h.snoc _ _ (by simpa using hn)
/-- None open, or one, at its place. -/
theorem open_cases {out : List Ro} (h : One out) (t : T) : (∀ r ∈ out, openAt t r = false) ∨ ∃ P r Q, out = P ++ r :: Q ∧ openAt t r = true ∧ (∀ r ∈ P, openAt t r = false) ∧ (∀ r ∈ Q, openAt t r = false) := by
  induction out with
  | nil => exact .inl (by simp)
  | cons x out ih =>
    have h' := List.pairwise_cons.1 h
    by_cases hx : openAt t x = true
    · refine .inr ⟨[], x, out, rfl, hx, by simp, fun r hr => ?_⟩
      cases hq : openAt t r with
      | false => rfl
      | true =>
        have a := openAt_iff.1 hx
        have b := openAt_iff.1 hq
        exact absurd ⟨a.1.trans b.1.symm, a.2, b.2⟩ (h'.1 r hr)
    · have hx' : openAt t x = false := by simpa using hx
      rcases ih h'.2 with hn | ⟨P, r, Q, he, ho, hP, hQ⟩
      · refine .inl fun r hr => ?_
        rcases List.mem_cons.1 hr with rfl | hr
        · exact hx'
        · exact hn r hr
      · refine .inr ⟨x :: P, r, Q, by rw [he]; rfl, ho, fun r hr => ?_, hQ⟩
        rcases List.mem_cons.1 hr with rfl | hr
        · exact hx'
        · exact hP r hr

/-! ### the search -/
/-- What stands behind the search. -/
def tailJ (k : Nat) (cs : List S65) (out : List Ro) (i op : Int) (c : Ch) : Option (List Ro) :=
  if c.f1.f0 = true then porterref22_Rows.j2 k cs out i op (decide (op ≥ 0)) c.f0 c.f1.f0 c.f1.f1.f0 c.f1.f1.f1 c.f1.f1.f2 else porterref22_Rows.j2 k cs out i op false c.f0 c.f1.f0 c.f1.f1.f0 c.f1.f1.f1 c.f1.f1.f2
theorem scan_none (cs : List S65) (out : List Ro) (i : Int) (c : Ch) (hl : out.length < 1073741824) (op : Int) (v : List Ro) (hv : Ev (fun k => tailJ k cs out i op c) v) :
    ∀ (B A : List Ro), out = A ++ B → (∀ r ∈ B, openAt c.f1.f1 r = false) → Ev (fun k => porterref22_Rows.l1 k cs out i op (A.length : Int) c.f0 c.f1.f0 c.f1.f1.f0 c.f1.f1.f1 c.f1.f1.f2) v
  | [], A, he, _ => by
    refine Ev.step hv fun k => ?_
    rw [porterref22_Rows.l1, if_neg (by rw [he]; simp)]; rfl
  | x :: B, A, he, hB => by
    have hlen : out.length = A.length + 1 + B.length := by rw [he]; simp; omega
    have hr : rd_T51 out (A.length : Int) = x := by rw [he]; exact rdRo_mid A x B
    have hx := hB x (by simp)
    refine Ev.step (scan_none cs out i c hl op v hv B (A ++ [x]) (by rw [he]; simp) (fun r h => hB r (List.mem_cons_of_mem _ h))) fun k => ?_
    rw [porterref22_Rows.l1, if_pos (by omega), if_pos (by omega), hr, wrap_len A x (by omega)]
    by_cases ht : x.f0 = c.f1.f1
    · have h2 : ¬ x.f2 = 0 := fun h2 => by rw [openAt_iff.2 ⟨ht, h2⟩] at hx; cases hx
      rw [if_pos (by rw [eqx_T']; exact ht), if_neg h2]
    · rw [if_neg (by rw [eqx_T']; exact ht)]
theorem scan_to (cs : List S65) (out : List Ro) (i : Int) (c : Ch) (hl : out.length < 1073741824) (op : Int) (P : List Ro) (r : Ro) (Q : List Ro) (ho : out = P ++ r :: Q) (hr : openAt c.f1.f1 r = true) (hQ : ∀ r ∈ Q, openAt c.f1.f1 r = false) (v : List Ro) (hv : Ev (fun k => tailJ k cs out i (P.length : Int) c) v) :
    ∀ (B A : List Ro), P = A ++ B → (∀ r ∈ B, openAt c.f1.f1 r = false) → Ev (fun k => porterref22_Rows.l1 k cs out i op (A.length : Int) c.f0 c.f1.f0 c.f1.f1.f0 c.f1.f1.f1 c.f1.f1.f2) v
  | [], A, he, _ => by
    have e : A = P := by rw [he]; simp
    subst e
    have hlen : out.length = A.length + 1 + Q.length := by rw [ho]; simp; omega
    have hq : rd_T51 out (A.length : Int) = r := by rw [ho]; exact rdRo_mid A r Q
    have a := openAt_iff.1 hr
    refine Ev.step (scan_none cs out i c hl (A.length : Int) v hv Q (A ++ [r]) (by rw [ho]; simp) hQ) fun k => ?_
    rw [porterref22_Rows.l1, if_pos (by omega), if_pos (by omega), hq, wrap_len A r (by omega), if_pos (by rw [eqx_T']; exact a.1), if_pos a.2]
  | x :: B, A, he, hB => by
    have hlen : out.length = A.length + 1 + B.length + 1 + Q.length := by rw [ho, he]; simp; omega
    have hq : rd_T51 out (A.length : Int) = x := by rw [ho, he]; rw [List.append_assoc]; exact rdRo_mid A x (B ++ r :: Q)
    have hx := hB x (by simp)
    refine Ev.step (scan_to cs out i c hl op P r Q ho hr hQ v hv B (A ++ [x]) (by rw [he]; simp) (fun r h => hB r (List.mem_cons_of_mem _ h))) fun k => ?_
    rw [porterref22_Rows.l1, if_pos (by omega), if_pos (by omega), hq, wrap_len A x (by omega)]
    by_cases ht : x.f0 = c.f1.f1
    · have h2 : ¬ x.f2 = 0 := fun h2 => by rw [openAt_iff.2 ⟨ht, h2⟩] at hx; cases hx
      rw [if_pos (by rw [eqx_T']; exact ht), if_neg h2]
    · rw [if_neg (by rw [eqx_T']; exact ht)]
/-- Behind the search: the row that the change wants. -/
theorem search (cs : List S65) (out : List Ro) (i : Int) (c : Ch) (hl : out.length < 1073741824) (h1 : One out) (v : List Ro) (hv : Ev (fun k => porterref22_Rows.l0 k cs (rowsDo out c) (wrap64 (i + 1))) v) :
    Ev (fun k => porterref22_Rows.l1 k cs out i (-1) 0 c.f0 c.f1.f0 c.f1.f1.f0 c.f1.f1.f1 c.f1.f1.f2) v := by
  rcases open_cases h1 c.f1.f1 with hn | ⟨P, r, Q, ho, hr, hP, hQ⟩
  · have ha : out.any (openAt c.f1.f1) = false := List.any_eq_false.2 (fun r hr => by rw [hn r hr]; simp)
    refine scan_none cs out i c hl (-1) v ?_ out [] rfl hn
    by_cases hd : c.f1.f0 = true
    · have e : rowsDo out c = out := by unfold rowsDo; rw [if_neg (by rw [ha]; simp), if_pos hd]
      rw [e] at hv
      refine Ev.step hv fun k => ?_
      unfold tailJ
      rw [if_pos hd, porterref22_Rows.j2, if_neg (by simp), if_pos hd]
    · have e : rowsDo out c = out ++ [⟨c.f1.f1, c.f0, 0⟩] := by unfold rowsDo; rw [if_neg (by rw [ha]; simp), if_neg hd]
      rw [e] at hv
      refine Ev.step hv fun k => ?_
      unfold tailJ
      rw [if_neg hd, porterref22_Rows.j2, if_neg (by simp), if_neg hd, if_pos (by omega), if_pos (by omega)]
  · have ha : out.any (openAt c.f1.f1) = true := List.any_eq_true.2 ⟨r, by rw [ho]; simp, hr⟩
    refine scan_to cs out i c hl (-1) P r Q ho hr hQ v ?_ P [] rfl hP
    have hlen : out.length = P.length + 1 + Q.length := by rw [ho]; simp; omega
    by_cases hd : c.f1.f0 = true
    · have hm : ∀ l : List Ro, (∀ r ∈ l, openAt c.f1.f1 r = false) → l.map (fun r => if openAt c.f1.f1 r = true then (⟨r.f0, r.f1, c.f0⟩ : Ro) else r) = l := by
        intro l hl
        conv => rhs; rw [← List.map_id l]
        refine List.map_congr_left fun r hr => ?_
        rw [if_neg (by rw [hl r hr]; simp)]; rfl
      have e : rowsDo out c = P ++ ⟨r.f0, r.f1, c.f0⟩ :: Q := by
        unfold rowsDo
        rw [if_pos ha, if_pos hd, ho, List.map_append, List.map_cons, hm P hP, hm Q hQ, if_pos hr]
      rw [e] at hv
      refine Ev.step hv fun k => ?_
      have hq : rd_T51 out (P.length : Int) = r := by rw [ho]; exact rdRo_mid P r Q
      unfold tailJ
      rw [if_pos hd, porterref22_Rows.j2, if_pos (by simp), if_pos (by omega), if_pos (by omega), hq]
      simp only [Option.bind_some]
      rw [if_pos hd]
      have hs : out.set (Int.toNat (P.length : Int)) ⟨⟨r.f0.f0, r.f0.f1, r.f0.f2⟩, r.f1, c.f0⟩ = P ++ ⟨r.f0, r.f1, c.f0⟩ :: Q := by
        rw [ho, Int.toNat_natCast, List.set_append_right (h := Nat.le_refl _)]; simp
      rw [hs]
    · have e : rowsDo out c = out := by unfold rowsDo; rw [if_pos ha, if_neg hd]
      rw [e] at hv
      refine Ev.step hv fun k => ?_
      unfold tailJ
      rw [if_neg hd, porterref22_Rows.j2, if_neg (by simp), if_neg hd, if_neg (by omega)]

/-! ### the sort -/
theorem back_len {α : Type} (A : List α) (a : α) (h : A.length < 1073741824) : wrap64 (((A ++ [a]).length : Int) - 1) = (A.length : Int) := by
  unfold wrap64; simp; omega
theorem sort_in (out : List Ro) (x : Ro) (i : Int) (hi : 0 ≤ i) (hi2 : i < out.length) (hr : rd_T51 out i = x) (sd : List Ro) (hS : SortedL ltRo sd) (hl : sd.length < 1073741824) (v : List Ro)
    (hv : ∀ nx, SortedL ltRo nx → Stab ltRo (sd ++ [x]) nx → Ev (fun k => porterref22_Rows.l2 k out nx (wrap64 (i + 1))) v) :
    ∀ (n : Nat) (A B : List Ro), A.length = n → sd = A ++ B → (∀ b, B.head? = some b → ltRo x b = true) → Ev (fun k => porterref22_Rows.l3 k out sd i (A.length : Int)) v := by
  intro n
  induction n with
  | zero =>
    intro A B hn he hB
    obtain rfl := List.eq_nil_of_length_eq_zero hn
    have he' : sd = B := he
    subst he'
    have hi' := insert_right swoRo x [] sd hS hB (by simp)
    refine Ev.step (hv _ hi'.1 hi'.2) fun k => ?_
    rw [porterref22_Rows.l3, if_neg (by simp)]
    simp only [Option.bind_some, List.length_nil, Int.ofNat_zero, Int.toNat_natCast, List.take_zero, List.nil_append, List.drop_zero, hr]
    rw [if_pos (by simp), if_pos (by simp), if_pos (by simp), if_pos hi, if_pos hi2, if_pos (by simp)]
    simp
    intro hbad
    omega
  | succ n ih =>
    intro A B hn he hB
    rcases List.eq_nil_or_concat A with rfl | ⟨A', a, hA⟩
    · simp at hn
    · rw [List.concat_eq_append] at hA
      subst hA
      have hlen : sd.length = A'.length + 1 + B.length := by rw [he]; simp; omega
      have hq : rd_T51 sd (A'.length : Int) = a := by rw [he, List.append_assoc]; exact rdRo_mid A' a B
      by_cases hb : ltRo x a = true
      · refine Ev.step (ih A' (a :: B) (by simpa using hn) (by rw [he]; simp) (by simp; exact hb)) fun k => ?_
        rw [porterref22_Rows.l3, if_pos (by simp), if_pos hi, if_pos hi2, back_len A' a (by omega), if_pos (by omega), if_pos (by omega), hr, hq, before_eq]
        simp only [Option.bind_some]
        rw [if_pos hb]
      · have hi' := insert_right swoRo x (A' ++ [a]) B (by rw [← he]; exact hS) hB (by simp; simpa using hb)
        refine Ev.step (hv _ hi'.1 (by rw [he]; exact hi'.2)) fun k => ?_
        rw [porterref22_Rows.l3, if_pos (by simp), if_pos hi, if_pos hi2, back_len A' a (by omega), if_pos (by omega), if_pos (by omega), hr, hq, before_eq]
        simp only [Option.bind_some]
        have ht : sd.take (Int.toNat ((A' ++ [a]).length : Int)) = A' ++ [a] := by rw [he, Int.toNat_natCast]; exact List.take_left
        have hdr : sd.drop (Int.toNat ((A' ++ [a]).length : Int)) = B := by rw [he, Int.toNat_natCast]; exact List.drop_left
        rw [if_neg hb, if_pos (by omega), if_pos (by rw [he]; simp; omega), ht, hdr, if_pos (by simp; omega), List.nil_append, if_pos (by simp; omega), if_pos (by simp; omega)]
        simp
theorem sort_go (out : List Ro) (hl : out.length < 1073741824) : ∀ (B A sd : List Ro), out = A ++ B → SortedL ltRo sd → Stab ltRo A sd → Ev (fun k => porterref22_Rows.l2 k out sd (A.length : Int)) (msort ltRo out)
  | [], A, sd, he, hS, hT => by
    have e : A = out := by rw [he]; simp
    subst e
    rw [← eq_msort swoRo hS hT]
    refine Ev.step (body := fun _ => some sd) Ev.now fun k => ?_
    rw [porterref22_Rows.l2, if_neg (by omega)]
  | x :: B, A, sd, he, hS, hT => by
    have hlen : out.length = A.length + 1 + B.length := by rw [he]; simp; omega
    have hr : rd_T51 out (A.length : Int) = x := by rw [he]; exact rdRo_mid A x B
    have hsl := hT.length swoRo
    have h := sort_in out x (A.length : Int) (by omega) (by omega) hr sd hS (by omega) (msort ltRo out) (fun nx h1 h2 => by
      rw [wrap_len A x (by omega)]
      exact sort_go out hl B (A ++ [x]) nx (by rw [he]; simp) h1 ((hT.append (Stab.refl [x])).trans h2)) sd.length sd [] rfl (by simp) (by simp)
    refine Ev.step h fun k => ?_
    rw [porterref22_Rows.l2, if_pos (by omega)]
theorem rows_go (cs : List Ch) (hl : cs.length ≤ 1048576) : ∀ (B A : List Ch) (out : List Ro), cs = A ++ B → One out → out.length ≤ A.length → Ev (fun k => porterref22_Rows.l0 k (cs.map plainCh) out (A.length : Int)) (msort ltRo (B.foldl rowsDo out))
  | [], A, out, he, hO, ho => by
    have hA : A.length ≤ 1048576 := by rw [he] at hl; simpa using hl
    refine Ev.step (sort_go out (by omega) out [] [] rfl sortedL_nil (Stab.refl [])) fun k => ?_
    rw [porterref22_Rows.l0, if_neg (by rw [he]; simp)]; rfl
  | x :: B, A, out, he, hO, ho => by
    have hlen : cs.length = A.length + 1 + B.length := by rw [he]; simp; omega
    have hr : rd_T65 (cs.map plainCh) (A.length : Int) = plainCh x := by
      have := rdP_mid (A.map plainCh) (plainCh x) (B.map plainCh)
      rw [List.length_map] at this
      rw [he, List.map_append, List.map_cons]; exact this
    have hlt : (A.length : Int) < ((cs.map plainCh).length : Int) := by rw [List.length_map]; omega
    have hs := search (cs.map plainCh) out (A.length : Int) x (by omega) hO (msort ltRo (B.foldl rowsDo (rowsDo out x))) (by
      rw [wrap_len A x (by omega)]
      exact rows_go cs hl B (A ++ [x]) (rowsDo out x) (by rw [he]; simp) (hO.next x) (by have := rowsDo_len out x; simp; omega))
    rw [List.foldl_cons]
    refine Ev.step hs fun k => ?_
    rw [porterref22_Rows.l0, if_pos hlt, if_pos (by omega), hr]
    rfl
theorem Rows_ev (cs : List Ch) (hl : cs.length ≤ 1048576) : Ev (fun k => porterref22_Rows.f k (cs.map plainCh)) (msort ltRo (rowsL cs)) := rows_go cs hl cs [] [] rfl List.Pairwise.nil (by simp)

/-! ### what is the same is told so -/
theorem same_self (l : List Ro) (hl : l.length < 4294967296) : ∀ (d i k : Nat), i + d = l.length → d < k → porterref07_Same.l0 k l l (i : Int) = some true
  | 0, i, 0, _, hk => by omega
  | 0, i, k + 1, hi, _ => by
    rw [porterref07_Same.l0, if_neg (by omega)]
  | d + 1, i, 0, _, hk => by omega
  | d + 1, i, k + 1, hi, hk => by
    rw [porterref07_Same.l0, if_pos (by omega), if_pos (by omega), if_pos (by omega), if_neg (by simp), wrap_step i (by omega)]
    exact same_self l hl d (i + 1) k (by omega) (by omega)
theorem same_f_self (l : List Ro) (hl : l.length < 4294967296) (k : Nat) (hk : l.length < k) : porterref07_Same.f k l l = some true := by
  unfold porterref07_Same.f
  rw [if_pos rfl]
  exact same_self l hl l.length 0 k (by omega) (by omega)
end Go.Proofs.Ytgjkidclpehnjaa.Pr

namespace Go.Proofs.Ytgjkidclpehnjaa.Pr
open Go.RowKit Go.Proofs.YtgjkidclpehnjaaW.PrintWords Go.Proofs.YtgjkidclpehnjaaW.PrintLast Go.Proofs.YtgjkidclpehnjaaW.PrintMore
attribute [local go_sem] max2_int min2_int max_two min_two max_three min_three max_four min_four   -- for this text's walks alone
set_option linter.unusedVariables false
set_option linter.unusedSimpArgs false

attribute [local go_sem high] eqA25 eqA27
/-! ### porterlaw22_mutations: function 15 -/
def porterlaw22_mutations.l0 : Nat → List (S27) → List (S27) → Int → Int → Option (Bool)
  | 0, _, _, _, _ => none
  | k + 1, x0, x1, x12, x13 => if x13 < x12 then (if 0 ≤ x13 then (if x13 < (x0.length : Int) then (if x13 < (x1.length : Int) then (if (!(((rd_T27 x0 x13).f0) == ((rd_T27 x1 x13).f0)) || ((!((((rd_T27 x0 x13).f1.f0).toList) == (((rd_T27 x1 x13).f1.f0).toList)) || (!((((rd_T27 x0 x13).f1.f1).toList) == (((rd_T27 x1 x13).f1.f1).toList)) || (!((((rd_T27 x0 x13).f1.f2).toList) == (((rd_T27 x1 x13).f1.f2).toList))))))) = true then (some false) else (porterlaw22_mutations.l0 k x0 x1 x12 (wrap64 (x13 + 1)))) else (none)) else (none)) else (none)) else (some true)
def porterlaw22_mutations.f (k : Nat) (l0 : List (S27)) (l1 : List (S27)) : Option (Bool) := if (l0.length : Int) = (l1.length : Int) then (porterlaw22_mutations.l0 k l0 l1 (l0.length : Int) 0) else (some false)
theorem porterlaw22_mutations.mono_l : ∀ k, (∀ y0 y1 y2 y3, LeO (porterlaw22_mutations.l0 k y0 y1 y2 y3) (porterlaw22_mutations.l0 (k + 1) y0 y1 y2 y3))
  | 0 => fun _ _ _ _ r h => by simp [porterlaw22_mutations.l0] at h
  | k + 1 => by
    have ih0 := porterlaw22_mutations.mono_l k
    · intro y0 y1 y2 y3
      unfold porterlaw22_mutations.l0
      repeat' first
      | (with_reducible exact ih0 _ _ _ _)
      | (with_reducible exact LeO.refl _)
      | (with_reducible exact LeO.none _)
      | (with_reducible refine LeO.ite ?_ ?_)
      | (with_reducible refine LeO.bind ?_ (fun _ => ?_))
      | exact ih0 _ _ _ _
      | exact LeO.none _
      | refine LeO.ite ?_ ?_
      | refine LeO.bind ?_ (fun _ => ?_)
theorem porterlaw22_mutations.mono : ∀ a0 a1 k, LeO (porterlaw22_mutations.f k a0 a1) (porterlaw22_mutations.f (k + 1) a0 a1) := by
  intro a0 a1 k
  have ih0 := porterlaw22_mutations.mono_l k
  unfold porterlaw22_mutations.f
  repeat' first
      | (with_reducible exact ih0 _ _ _ _)
      | (with_reducible exact LeO.refl _)
      | (with_reducible exact LeO.none _)
      | (with_reducible refine LeO.ite ?_ ?_)
      | (with_reducible refine LeO.bind ?_ (fun _ => ?_))
      | exact ih0 _ _ _ _
      | exact LeO.none _
      | refine LeO.ite ?_ ?_
      | refine LeO.bind ?_ (fun _ => ?_)
set_option maxHeartbeats 8000000 in
set_option maxRecDepth 100000 in
theorem porterlaw22_mutations.calls (k : Nat) (A0 : Option Addr) (c0 : Nat) (l0 : List (S27)) (A1 : Option Addr) (c1 : Nat) (l1 : List (S27)) (r : Bool) (w : World) (hr0 : Kd.C k27 w A0 l0.length l0) (hc0 : l0.length ≤ c0) (hr1 : Kd.C k27 w A1 l1.length l1) (hc1 : l1.length ≤ c1) (h : porterlaw22_mutations.f k l0 l1 = some r) :
    Calls Try.prog 15 #[.slice A0 l0.length c0, .slice A1 l1.length c1] w fun e w' => e = .returned (.bool r) ∧ Drawn0 w w' := by
  have hu27 := Try.underlying27
  have HR0 := Aside0.mk hr0
  have HC0 := Aside0.mk hc0
  clear hr0 hc0
  have HR1 := Aside0.mk hr1
  have HC1 := Aside0.mk hc1
  clear hr1 hc1
  have H : (if (l0.length : Int) = (l1.length : Int) then (porterlaw22_mutations.l0 k l0 l1 (l0.length : Int) 0) else (some false)) = some r := h
  clear h
  by_cases c3 : (l0.length : Int) = (l1.length : Int)
  · rw [if_pos c3] at H
    have c3b0 : ((l0.length : Int) == (l1.length : Int)) = true := beq_iff_eq.mpr c3
    have c3b1 : ((l0.length : Int) != (l1.length : Int)) = false := bne_eq_false_iff_eq.mpr c3
    have c3b2 : (l0.length == l1.length) = true := by first | simpa using c3 | (simp at c3 ⊢; omega)
    clear c3
    have H' := Aside0.mk H
    clear H
    go_enter Try.func15, Try.ntmps15
    go_wp2
    repeat (go_quiet (fail); try go_wp2)
    go_loopg [13] k (fun kq v13 w' => ∃ (x13_1 : Int), v13 = .int .i64 x13_1 ∧ Aside0 (porterlaw22_mutations.l0 kq l0 l1 (l0.length : Int) x13_1 = some r) ∧ Aside0 (kq ≤ k) ∧ Drawn0 w w')
    case atStart => exact ⟨(0), (by first | rfl | (simp; done) | (simp [*]; done)), H', ⟨Nat.le_refl _⟩, by repeat (first | exact Drawn0.refl _ | apply Drawn0.step)⟩
    case round =>
      clear H'
      try clear c1
      try clear p2
      try clear c3
      try clear c3b0
      try clear c3b1
      try clear c3b2
      obtain ⟨x13_1, rfl, HA, HK1, ⟨m1, rfl⟩⟩ := hrel
      cases gk with
      | zero => exact absurd HA.out (by simp [porterlaw22_mutations.l0])
      | succ k1 =>
        have H := HA.out
        clear HA
        simp only [porterlaw22_mutations.l0] at H
        by_cases c4 : x13_1 < (l0.length : Int)
        · rw [if_pos c4] at H
          have c4b0 : decide (x13_1 < (l0.length : Int)) = true := decide_eq_true c4
          clear c4
          by_cases c5 : 0 ≤ x13_1
          · rw [if_pos c5] at H
            have c5b0 : decide (0 ≤ x13_1) = true := decide_eq_true c5
            clear c5
            by_cases c6 : x13_1 < (l0.length : Int)
            · rw [if_pos c6] at H
              have c6b0 : decide (x13_1 < (l0.length : Int)) = true := decide_eq_true c6
              clear c6
              by_cases c7 : x13_1 < (l1.length : Int)
              · rw [if_pos c7] at H
                have c7b0 : decide (x13_1 < (l1.length : Int)) = true := decide_eq_true c7
                clear c7
                by_cases c8 : (!(((rd_T27 l0 x13_1).f0) == ((rd_T27 l1 x13_1).f0)) || ((!((((rd_T27 l0 x13_1).f1.f0).toList) == (((rd_T27 l1 x13_1).f1.f0).toList)) || (!((((rd_T27 l0 x13_1).f1.f1).toList) == (((rd_T27 l1 x13_1).f1.f1).toList)) || (!((((rd_T27 l0 x13_1).f1.f2).toList) == (((rd_T27 l1 x13_1).f1.f2).toList))))))) = true
                · rw [if_pos c8] at H
                  have c8b0 : (!(((rd_T27 l0 x13_1).f0) == ((rd_T27 l1 x13_1).f0)) || ((!((((rd_T27 l0 x13_1).f1.f0).toList) == (((rd_T27 l1 x13_1).f1.f0).toList)) || (!((((rd_T27 l0 x13_1).f1.f1).toList) == (((rd_T27 l1 x13_1).f1.f1).toList)) || (!((((rd_T27 l0 x13_1).f1.f2).toList) == (((rd_T27 l1 x13_1).f1.f2).toList))))))) = true := c8
                  clear c8
                  obtain rfl := Option.some.inj H
                  have p254 : 0 ≤ (x13_1 : Int) := of_decide_eq_true (by first | (with_reducible assumption) | assumption)
                  have q254 : x13_1 < (l0.length : Int) := of_decide_eq_true (by first | (with_reducible assumption) | assumption)
                  obtain ⟨ad254, e254, hx254_0, hx254_1, hx254_2, hx254_3⟩ := at_T27 HR0.out x13_1 p254 q254
                  cases e254
                  replace p254 := eq_true p254
                  replace q254 := eq_true q254
                  have p255 : 0 ≤ (x13_1 : Int) := of_decide_eq_true (by first | (with_reducible assumption) | assumption)
                  have q255 : x13_1 < (l1.length : Int) := of_decide_eq_true (by first | (with_reducible assumption) | assumption)
                  obtain ⟨ad255, e255, hx255_0, hx255_1, hx255_2, hx255_3⟩ := at_T27 HR1.out x13_1 p255 q255
                  cases e255
                  replace p255 := eq_true p255
                  replace q255 := eq_true q255
                  go_wp2
                  repeat (go_quiet (fail); try go_wp2)
                  go_ret
                  exact ⟨by first | rfl | (simp; done) | (simp [*]; done), by repeat (first | exact Drawn0.refl _ | apply Drawn0.step)⟩
                · rw [if_neg c8] at H
                  have c8b0 : (!(((rd_T27 l0 x13_1).f0) == ((rd_T27 l1 x13_1).f0)) || ((!((((rd_T27 l0 x13_1).f1.f0).toList) == (((rd_T27 l1 x13_1).f1.f0).toList)) || (!((((rd_T27 l0 x13_1).f1.f1).toList) == (((rd_T27 l1 x13_1).f1.f1).toList)) || (!((((rd_T27 l0 x13_1).f1.f2).toList) == (((rd_T27 l1 x13_1).f1.f2).toList))))))) = false := by simpa using c8
                  clear c8
                  have H' := Aside0.mk H
                  clear H
                  have p254 : 0 ≤ (x13_1 : Int) := of_decide_eq_true (by first | (with_reducible assumption) | assumption)
                  have q254 : x13_1 < (l0.length : Int) := of_decide_eq_true (by first | (with_reducible assumption) | assumption)
                  obtain ⟨ad254, e254, hx254_0, hx254_1, hx254_2, hx254_3⟩ := at_T27 HR0.out x13_1 p254 q254
                  cases e254
                  replace p254 := eq_true p254
                  replace q254 := eq_true q254
                  have p255 : 0 ≤ (x13_1 : Int) := of_decide_eq_true (by first | (with_reducible assumption) | assumption)
                  have q255 : x13_1 < (l1.length : Int) := of_decide_eq_true (by first | (with_reducible assumption) | assumption)
                  obtain ⟨ad255, e255, hx255_0, hx255_1, hx255_2, hx255_3⟩ := at_T27 HR1.out x13_1 p255 q255
                  cases e255
                  replace p255 := eq_true p255
                  replace q255 := eq_true q255
                  go_wp2
                  repeat (go_quiet (fail); try go_wp2)
                  go_roundg k1
                  case measure => have := HK1.out; omega
                  case rel => exact ⟨(wrap64 (x13_1 + 1)), (by first | rfl | (simp; done) | (simp [*]; done)), H', ⟨by have := HK1.out; omega⟩, by repeat (first | exact Drawn0.refl _ | apply Drawn0.step)⟩
              · rw [if_neg c7] at H
                exact absurd H (by simp)
            · rw [if_neg c6] at H
              exact absurd H (by simp)
          · rw [if_neg c5] at H
            exact absurd H (by simp)
        · rw [if_neg c4] at H
          have c4b0 : decide (x13_1 < (l0.length : Int)) = false := decide_eq_false c4
          clear c4
          obtain rfl := Option.some.inj H
          go_wp2
          repeat (go_quiet (fail); try go_wp2)
          go_ret
          exact ⟨by first | rfl | (simp; done) | (simp [*]; done), by repeat (first | exact Drawn0.refl _ | apply Drawn0.step)⟩
  · rw [if_neg c3] at H
    have c3b0 : ((l0.length : Int) == (l1.length : Int)) = false := beq_eq_false_iff_ne.mpr c3
    have c3b1 : ((l0.length : Int) != (l1.length : Int)) = true := bne_iff_ne.mpr c3
    have c3b2 : (l0.length == l1.length) = false := by first | simpa using c3 | (simp at c3 ⊢; omega)
    obtain rfl := Option.some.inj H
    go_enter Try.func15, Try.ntmps15
    go_wp2
    repeat (go_quiet (fail); try go_wp2)
    go_ret
    exact ⟨by first | rfl | (simp; done) | (simp [*]; done), by repeat (first | exact Drawn0.refl _ | apply Drawn0.step)⟩

/-! ### porterref22_in: function 36 -/
def porterref22_in.l0 : Nat → List (S25) → Int → ByteArray → ByteArray → ByteArray → Option (Bool)
  | 0, _, _, _, _, _ => none
  | k + 1, x0, x5, x257000, x257001, x257002 => if x5 < (x0.length : Int) then (if 0 ≤ x5 then (if ((((rd_T25 x0 x5).f0).toList) == x257000.toList && ((((rd_T25 x0 x5).f1).toList) == x257001.toList && ((((rd_T25 x0 x5).f2).toList) == x257002.toList))) = true then (some true) else (porterref22_in.l0 k x0 (wrap64 (x5 + 1)) x257000 x257001 x257002)) else (none)) else (some false)
def porterref22_in.f (k : Nat) (l0 : List (S25)) (a1_0 : ByteArray) (a1_1 : ByteArray) (a1_2 : ByteArray) : Option (Bool) := porterref22_in.l0 k l0 0 a1_0 a1_1 a1_2
theorem porterref22_in.mono_l : ∀ k, (∀ y0 y1 y2 y3 y4, LeO (porterref22_in.l0 k y0 y1 y2 y3 y4) (porterref22_in.l0 (k + 1) y0 y1 y2 y3 y4))
  | 0 => fun _ _ _ _ _ r h => by simp [porterref22_in.l0] at h
  | k + 1 => by
    have ih0 := porterref22_in.mono_l k
    · intro y0 y1 y2 y3 y4
      unfold porterref22_in.l0
      repeat' first
      | (with_reducible exact ih0 _ _ _ _ _)
      | (with_reducible exact LeO.refl _)
      | (with_reducible exact LeO.none _)
      | (with_reducible refine LeO.ite ?_ ?_)
      | (with_reducible refine LeO.bind ?_ (fun _ => ?_))
      | exact ih0 _ _ _ _ _
      | exact LeO.none _
      | refine LeO.ite ?_ ?_
      | refine LeO.bind ?_ (fun _ => ?_)
theorem porterref22_in.mono : ∀ a0 a1 a2 a3 k, LeO (porterref22_in.f k a0 a1 a2 a3) (porterref22_in.f (k + 1) a0 a1 a2 a3) := by
  intro a0 a1 a2 a3 k
  have ih0 := porterref22_in.mono_l k
  unfold porterref22_in.f
  repeat' first
      | (with_reducible exact ih0 _ _ _ _ _)
      | (with_reducible exact LeO.refl _)
      | (with_reducible exact LeO.none _)
      | (with_reducible refine LeO.ite ?_ ?_)
      | (with_reducible refine LeO.bind ?_ (fun _ => ?_))
      | exact ih0 _ _ _ _ _
      | exact LeO.none _
      | refine LeO.ite ?_ ?_
      | refine LeO.bind ?_ (fun _ => ?_)
set_option maxHeartbeats 8000000 in
set_option maxRecDepth 100000 in
theorem porterref22_in.calls (k : Nat) (A0 : Option Addr) (c0 : Nat) (l0 : List (S25)) (a1_0 : ByteArray) (a1_1 : ByteArray) (a1_2 : ByteArray) (r : Bool) (w : World) (hr0 : Kd.C k25 w A0 l0.length l0) (hc0 : l0.length ≤ c0) (h : porterref22_in.f k l0 a1_0 a1_1 a1_2 = some r) :
    Calls Try.prog 36 #[.slice A0 l0.length c0, .agg #[.string a1_0, .string a1_1, .string a1_2]] w fun e w' => e = .returned (.bool r) ∧ Below w.heap.size w w' := by
  have hu25 := Try.underlying25
  have HR0 := Aside0.mk hr0
  have HC0 := Aside0.mk hc0
  clear hr0 hc0
  have HB := Aside0.mk (Below.refl w.heap.size w)
  have H : (porterref22_in.l0 k l0 0 a1_0 a1_1 a1_2) = some r := h
  clear h
  have H' := Aside0.mk H
  clear H
  go_enter Try.func36, Try.ntmps36
  go_wp2_with (first | ((with_reducible refine gate_dst (N := 3) rfl ?_); refine box_event ?hg (N := 3) ?hd (cs := #[.string a1_0, .string a1_1, .string a1_2]) (t := 25) ?hr ?_; (case hd => rfl); (case hg => rfl); (case hr => first | (go_simp; done) | (go_simp; rfl)); intro gb256 hg w3 hbox hb; have n0_ := Aside0.mk (below_step (by repeat (first | (with_reducible first | exact HB.out | apply below_alloc | apply pw_below_drewN | apply below_drew1) | exact HB.out)) hb); have n1_ := Aside0.mk (hbox); have n2_ := Aside0.mk ((by rw [hg]; exact (below_size (by repeat (first | (with_reducible first | exact HB.out | apply below_alloc | apply pw_below_drewN | apply below_drew1) | exact HB.out))) : w.heap.size ≤ gb256)); have n3_ := Aside0.mk ((by rw [hg]; exact (below_size (by repeat (first | (with_reducible first | exact HB.out | apply below_alloc | apply pw_below_drewN | apply below_drew1) | exact HB.out))) : w.heap.size ≤ gb256)); clear HB; have HB := n0_; have BK256 := n1_; have GW256 := n2_; have GE256 := n3_; clear n0_ n1_ n2_ n3_; clear hb hbox hg))
  repeat (go_quiet (first | ((with_reducible refine gate_dst (N := 3) rfl ?_); refine box_event ?hg (N := 3) ?hd (cs := #[.string a1_0, .string a1_1, .string a1_2]) (t := 25) ?hr ?_; (case hd => rfl); (case hg => rfl); (case hr => first | (go_simp; done) | (go_simp; rfl)); intro gb256 hg w3 hbox hb; have n0_ := Aside0.mk (below_step (by repeat (first | (with_reducible first | exact HB.out | apply below_alloc | apply pw_below_drewN | apply below_drew1) | exact HB.out)) hb); have n1_ := Aside0.mk (hbox); have n2_ := Aside0.mk ((by rw [hg]; exact (below_size (by repeat (first | (with_reducible first | exact HB.out | apply below_alloc | apply pw_below_drewN | apply below_drew1) | exact HB.out))) : w.heap.size ≤ gb256)); have n3_ := Aside0.mk ((by rw [hg]; exact (below_size (by repeat (first | (with_reducible first | exact HB.out | apply below_alloc | apply pw_below_drewN | apply below_drew1) | exact HB.out))) : w.heap.size ≤ gb256)); clear HB; have HB := n0_; have BK256 := n1_; have GW256 := n2_; have GE256 := n3_; clear n0_ n1_ n2_ n3_; clear hb hbox hg)); try go_wp2_with (first | ((with_reducible refine gate_dst (N := 3) rfl ?_); refine box_event ?hg (N := 3) ?hd (cs := #[.string a1_0, .string a1_1, .string a1_2]) (t := 25) ?hr ?_; (case hd => rfl); (case hg => rfl); (case hr => first | (go_simp; done) | (go_simp; rfl)); intro gb256 hg w3 hbox hb; have n0_ := Aside0.mk (below_step (by repeat (first | (with_reducible first | exact HB.out | apply below_alloc | apply pw_below_drewN | apply below_drew1) | exact HB.out)) hb); have n1_ := Aside0.mk (hbox); have n2_ := Aside0.mk ((by rw [hg]; exact (below_size (by repeat (first | (with_reducible first | exact HB.out | apply below_alloc | apply pw_below_drewN | apply below_drew1) | exact HB.out))) : w.heap.size ≤ gb256)); have n3_ := Aside0.mk ((by rw [hg]; exact (below_size (by repeat (first | (with_reducible first | exact HB.out | apply below_alloc | apply pw_below_drewN | apply below_drew1) | exact HB.out))) : w.heap.size ≤ gb256)); clear HB; have HB := n0_; have BK256 := n1_; have GW256 := n2_; have GE256 := n3_; clear n0_ n1_ n2_ n3_; clear hb hbox hg)))
  go_loopg [5] k (fun kq v5 w' => ∃ (x5_1 : Int), v5 = .int .i64 x5_1 ∧ Aside0 (porterref22_in.l0 kq l0 x5_1 a1_0 a1_1 a1_2 = some r) ∧ Aside0 (kq ≤ k) ∧ Aside0 (w'.heap[gb256]? = some (.cells #[.string a1_0, .string a1_1, .string a1_2] 25 (0, 0))) ∧ Aside0 (Below w.heap.size w w'))
  case atStart => exact ⟨(0), (by first | rfl | (simp; done) | (simp [*]; done)), H', ⟨Nat.le_refl _⟩, ⟨by (with_reducible repeat (first | refine blk_drewN ?_ _ | refine blk_drew ?_ | refine blk_alloc ?_ _)); exact BK256.out⟩, ⟨by repeat (first | (with_reducible first | exact HB.out | apply below_alloc | apply pw_below_drewN | apply below_drew1 | refine below_set ?_ GE256.out) | exact HB.out)⟩⟩
  case round =>
    clear H'
    try clear p2
    try clear c3
    obtain ⟨x5_1, rfl, HA, HK1, BK256, HB⟩ := hrel
    cases gk with
    | zero => exact absurd HA.out (by simp [porterref22_in.l0])
    | succ k1 =>
      have H := HA.out
      clear HA
      simp only [porterref22_in.l0] at H
      by_cases c4 : x5_1 < (l0.length : Int)
      · rw [if_pos c4] at H
        have c4b0 : decide (x5_1 < (l0.length : Int)) = true := decide_eq_true c4
        clear c4
        by_cases c5 : 0 ≤ x5_1
        · rw [if_pos c5] at H
          have c5b0 : decide (0 ≤ x5_1) = true := decide_eq_true c5
          clear c5
          by_cases c6 : ((((rd_T25 l0 x5_1).f0).toList) == a1_0.toList && ((((rd_T25 l0 x5_1).f1).toList) == a1_1.toList && ((((rd_T25 l0 x5_1).f2).toList) == a1_2.toList))) = true
          · rw [if_pos c6] at H
            have c6b0 : ((((rd_T25 l0 x5_1).f0).toList) == a1_0.toList && ((((rd_T25 l0 x5_1).f1).toList) == a1_1.toList && ((((rd_T25 l0 x5_1).f2).toList) == a1_2.toList))) = true := c6
            (try (have c6b1 : decide ((((rd_T25 l0 x5_1).f0).toList) = a1_0.toList && ((((rd_T25 l0 x5_1).f1).toList) == a1_1.toList && ((((rd_T25 l0 x5_1).f2).toList) == a1_2.toList))) = true := by simpa using c6))
            (try (have c6b2 : ((((rd_T25 l0 x5_1).f0).toList) == a1_0.toList && ((((rd_T25 l0 x5_1).f1).toList) == a1_1.toList && ((((rd_T25 l0 x5_1).f2).toList) == a1_2.toList))) = true := by simpa using c6))
            clear c6
            obtain rfl := Option.some.inj H
            have p257 : 0 ≤ (x5_1 : Int) := of_decide_eq_true (by first | (with_reducible assumption) | assumption)
            have q257 : x5_1 < (l0.length : Int) := of_decide_eq_true (by first | (with_reducible assumption) | assumption)
            obtain ⟨ad257, e257, hx257_0, hx257_1, hx257_2⟩ := at_T25 HR0.out x5_1 p257 q257
            cases e257
            replace hx257_0 := (HB.out.cell (World.block_lt_of_cell? w _ hx257_0)).trans hx257_0
            replace hx257_1 := (HB.out.cell (World.block_lt_of_cell? w _ hx257_1)).trans hx257_1
            replace hx257_2 := (HB.out.cell (World.block_lt_of_cell? w _ hx257_2)).trans hx257_2
            replace p257 := eq_true p257
            replace q257 := eq_true q257
            have hcz7_0 : wr.cell? ⟨gb256, 0, none⟩ = some (.string a1_0) := (blk_cell BK256.out 0).trans rfl
            have hcz7_1 : wr.cell? ⟨gb256, 1, none⟩ = some (.string a1_1) := (blk_cell BK256.out 1).trans rfl
            have hcz7_2 : wr.cell? ⟨gb256, 2, none⟩ = some (.string a1_2) := (blk_cell BK256.out 2).trans rfl
            have hfz7_0 := blk_frozen BK256.out 0
            have hfz7_1 := blk_frozen BK256.out 1
            have hfz7_2 := blk_frozen BK256.out 2
            go_wp2
            repeat (go_quiet (fail); try go_wp2)
            go_ret
            exact ⟨by first | rfl | (simp [errW_none, errW_some] <;> rfl) | (simp [*, errW_none, errW_some] <;> rfl), by repeat (first | (with_reducible first | exact HB.out | apply below_alloc | apply pw_below_drewN | apply below_drew1 | refine below_set ?_ GE256.out) | exact HB.out)⟩
          · rw [if_neg c6] at H
            have c6b0 : ((((rd_T25 l0 x5_1).f0).toList) == a1_0.toList && ((((rd_T25 l0 x5_1).f1).toList) == a1_1.toList && ((((rd_T25 l0 x5_1).f2).toList) == a1_2.toList))) = false := by simpa using c6
            (try (have c6b1 : decide ((((rd_T25 l0 x5_1).f0).toList) = a1_0.toList && ((((rd_T25 l0 x5_1).f1).toList) == a1_1.toList && ((((rd_T25 l0 x5_1).f2).toList) == a1_2.toList))) = false := by simpa using c6))
            (try (have c6b2 : ((((rd_T25 l0 x5_1).f0).toList) == a1_0.toList && ((((rd_T25 l0 x5_1).f1).toList) == a1_1.toList && ((((rd_T25 l0 x5_1).f2).toList) == a1_2.toList))) = false := by simpa using c6))
            (try (have c6b3 : ¬ ((((rd_T25 l0 x5_1).f0).toList) = a1_0.toList && ((((rd_T25 l0 x5_1).f1).toList) == a1_1.toList && ((((rd_T25 l0 x5_1).f2).toList) == a1_2.toList))) := by simpa using c6))
            clear c6
            have H' := Aside0.mk H
            clear H
            have p257 : 0 ≤ (x5_1 : Int) := of_decide_eq_true (by first | (with_reducible assumption) | assumption)
            have q257 : x5_1 < (l0.length : Int) := of_decide_eq_true (by first | (with_reducible assumption) | assumption)
            obtain ⟨ad257, e257, hx257_0, hx257_1, hx257_2⟩ := at_T25 HR0.out x5_1 p257 q257
            cases e257
            replace hx257_0 := (HB.out.cell (World.block_lt_of_cell? w _ hx257_0)).trans hx257_0
            replace hx257_1 := (HB.out.cell (World.block_lt_of_cell? w _ hx257_1)).trans hx257_1
            replace hx257_2 := (HB.out.cell (World.block_lt_of_cell? w _ hx257_2)).trans hx257_2
            replace p257 := eq_true p257
            replace q257 := eq_true q257
            have hcz8_0 : wr.cell? ⟨gb256, 0, none⟩ = some (.string a1_0) := (blk_cell BK256.out 0).trans rfl
            have hcz8_1 : wr.cell? ⟨gb256, 1, none⟩ = some (.string a1_1) := (blk_cell BK256.out 1).trans rfl
            have hcz8_2 : wr.cell? ⟨gb256, 2, none⟩ = some (.string a1_2) := (blk_cell BK256.out 2).trans rfl
            have hfz8_0 := blk_frozen BK256.out 0
            have hfz8_1 := blk_frozen BK256.out 1
            have hfz8_2 := blk_frozen BK256.out 2
            go_wp2
            repeat (go_quiet (fail); try go_wp2)
            go_roundg k1
            case measure => have := HK1.out; omega
            case rel => exact ⟨(wrap64 (x5_1 + 1)), (by first | rfl | (simp; done) | (simp [*]; done)), H', ⟨by have := HK1.out; omega⟩, ⟨by (with_reducible repeat (first | refine blk_drewN ?_ _ | refine blk_drew ?_ | refine blk_alloc ?_ _)); exact BK256.out⟩, ⟨by repeat (first | (with_reducible first | exact HB.out | apply below_alloc | apply pw_below_drewN | apply below_drew1 | refine below_set ?_ GE256.out) | exact HB.out)⟩⟩
        · rw [if_neg c5] at H
          exact absurd H (by simp)
      · rw [if_neg c4] at H
        have c4b0 : decide (x5_1 < (l0.length : Int)) = false := decide_eq_false c4
        clear c4
        obtain rfl := Option.some.inj H
        go_wp2
        repeat (go_quiet (fail); try go_wp2)
        go_ret
        exact ⟨by first | rfl | (simp [errW_none, errW_some] <;> rfl) | (simp [*, errW_none, errW_some] <;> rfl), by repeat (first | (with_reducible first | exact HB.out | apply below_alloc | apply pw_below_drewN | apply below_drew1 | refine below_set ?_ GE256.out) | exact HB.out)⟩

end Go.Proofs.Ytgjkidclpehnjaa.Pr
