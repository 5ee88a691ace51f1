/- The law WatchEffect, second form: whatever it reads of bulk at most 2^20, it returns true and what it reads is as it was. Condition: the form's own bound. -/
import Derived.Test.YtgdmdhhihoifkaaEf2
import Derived.Test.YtgdmdhhihoifkaaEf4
set_option linter.unusedVariables false
set_option linter.unusedSimpArgs false
namespace Go.Proofs.Ytgdmdhhihoifkaa.Pr
open Go.RowKit Go.Proofs.YtgdmdhhihoifkaaW.PrintWords Go.Proofs.YtgdmdhhihoifkaaW.PrintLast Go.Proofs.YtgdmdhhihoifkaaW.PrintMore
attribute [local go_sem] max2_int min2_int max_two min_two max_three min_three max_four min_four   -- for this text's walks alone
set_option linter.unusedVariables false
set_option linter.unusedSimpArgs false

attribute [local go_sem high] eqA25 eqA51
-- told from outside: function 7 (watch_Rows)

-- told from outside: function 8 (watch_Changes)

-- told from outside: function 18 (watch_At)

-- told from outside: function 19 (watch_Back)

/-! ### porterlaw22_viewer: function 20 -/
def porterlaw22_viewer.f (a0 : ByteArray) : Option (ByteArray × ByteArray × ByteArray) := some ((⟨#[100, 111, 99, 58, 97]⟩ : ByteArray), (⟨#[118, 105, 101, 119, 101, 114]⟩ : ByteArray), a0)
set_option maxHeartbeats 8000000 in
set_option maxRecDepth 100000 in
theorem porterlaw22_viewer.calls (a0 : ByteArray) (r1 : ByteArray) (r2 : ByteArray) (r3 : ByteArray) (w : World) (h : porterlaw22_viewer.f a0 = some (r1, r2, r3)) :
    Calls Try.prog 20 #[.string a0] w fun e w' => e = .returned (.agg #[.string r1, .string r2, .string r3]) ∧ Below w.heap.size w w' := by
  have hu25 := Try.underlying25
  have HB := Aside0.mk (Below.refl w.heap.size w)
  have H : (some ((⟨#[100, 111, 99, 58, 97]⟩ : ByteArray), (⟨#[118, 105, 101, 119, 101, 114]⟩ : ByteArray), a0)) = some (r1, r2, r3) := h
  clear h
  simp only [Option.some.injEq, Prod.mk.injEq] at H
  obtain ⟨rfl, rfl, rfl⟩ := H
  go_enter Try.func20, Try.ntmps20
  go_wp2_with (first | ((with_reducible refine gate_dst (N := 2) rfl ?_); refine box_event ?hg (N := 2) ?hd (cs := #[.string (⟨#[]⟩ : ByteArray), .string (⟨#[]⟩ : ByteArray), .string (⟨#[]⟩ : ByteArray)]) (t := 25) ?hr ?_; (case hd => rfl); (case hg => rfl); (case hr => first | (go_simp; done) | (go_simp; rfl)); intro gb101 hg w2 hbox hb; have n0_ := Aside0.mk (below_step (by repeat (first | (with_reducible first | exact HB.out | apply below_alloc | apply pw_below_drewN | apply below_drew1) | exact HB.out)) hb); have n1_ := Aside0.mk (hbox); have n2_ := Aside0.mk ((by rw [hg]; exact (below_size (by repeat (first | (with_reducible first | exact HB.out | apply below_alloc | apply pw_below_drewN | apply below_drew1) | exact HB.out))) : w.heap.size ≤ gb101)); have n3_ := Aside0.mk ((by rw [hg]; exact (below_size (by repeat (first | (with_reducible first | exact HB.out | apply below_alloc | apply pw_below_drewN | apply below_drew1) | exact HB.out))) : w.heap.size ≤ gb101)); clear HB; have HB := n0_; have BK101 := n1_; have GW101 := n2_; have GE101 := n3_; clear n0_ n1_ n2_ n3_; clear hb hbox hg; have hcz3_0 : w2.cell? ⟨gb101, 0, none⟩ = some (.string (⟨#[]⟩ : ByteArray)) := (blk_cell BK101.out 0).trans rfl; have hcz3_1 : w2.cell? ⟨gb101, 1, none⟩ = some (.string (⟨#[]⟩ : ByteArray)) := (blk_cell BK101.out 1).trans rfl; have hcz3_2 : w2.cell? ⟨gb101, 2, none⟩ = some (.string (⟨#[]⟩ : ByteArray)) := (blk_cell BK101.out 2).trans rfl; have hfz3_0 := blk_frozen BK101.out 0; have hfz3_1 := blk_frozen BK101.out 1; have hfz3_2 := blk_frozen BK101.out 2))
  refine bodyPost_ret (results_cell_row rfl _ _ gb101 25 #[.string (⟨#[100, 111, 99, 58, 97]⟩ : ByteArray), .string (⟨#[118, 105, 101, 119, 101, 114]⟩ : ByteArray), .string a0] (0, 0) _ rfl (by (with_reducible repeat (first | refine blk_drewN ?_ _ | refine blk_drew ?_ | refine blk_alloc ?_ _)); refine blk_put (cs := #[.string (⟨#[100, 111, 99, 58, 97]⟩ : ByteArray), .string (⟨#[118, 105, 101, 119, 101, 114]⟩ : ByteArray), .string (⟨#[]⟩ : ByteArray)]) ?_ 2 _ rfl; (with_reducible repeat (first | refine blk_drewN ?_ _ | refine blk_drew ?_ | refine blk_alloc ?_ _)); refine blk_put (cs := #[.string (⟨#[100, 111, 99, 58, 97]⟩ : ByteArray), .string (⟨#[]⟩ : ByteArray), .string (⟨#[]⟩ : ByteArray)]) ?_ 1 _ rfl; (with_reducible repeat (first | refine blk_drewN ?_ _ | refine blk_drew ?_ | refine blk_alloc ?_ _)); refine blk_put (cs := #[.string (⟨#[]⟩ : ByteArray), .string (⟨#[]⟩ : ByteArray), .string (⟨#[]⟩ : ByteArray)]) ?_ 0 _ rfl; (with_reducible repeat (first | refine blk_drewN ?_ _ | refine blk_drew ?_ | refine blk_alloc ?_ _)); exact BK101.out) Try.underlying25 rfl (by kernel_rfl)) rfl ?_
  exact ⟨by first | rfl | (simp [errW_none, errW_some] <;> rfl) | (simp [*, errW_none, errW_some] <;> rfl), by repeat (first | (with_reducible first | exact HB.out | apply below_alloc | apply pw_below_drewN | apply below_drew1 | refine below_set ?_ GE101.out) | exact HB.out)⟩

/-! ### porterlaw22_awake: function 6 -/
def porterlaw22_awake.f  : Option (Bool) := (porterlaw22_viewer.f (⟨#[117, 115, 101, 114, 58, 97, 110, 110]⟩ : ByteArray)).bind fun bt102 => ((some (([(⟨(⟨bt102.1, bt102.2.1, bt102.2.2⟩ : S25), 3, 5⟩ : S51)] : List (S51)) : List (S51))).bind fun y105 => ((watch_Changes.f y105 0 9).bind fun t108 => (if (t108.length : Int) = 2 then (if 0 < (t108.length : Int) then (if ((rd_T29 t108 0).f0) = 3 then (if ((rd_T29 t108 0).f1.f0 = true) then (some false) else (if 1 < (t108.length : Int) then (if ((rd_T29 t108 1).f0) = 5 then (if (rd_T29 t108 1).f1.f0 = true then ((watch_At.f y105 4).bind fun t115 => (if (t115.length : Int) = 1 then ((watch_Rows.f t108).bind fun t118 => (if (t118.length : Int) = 1 then ((watch_Back.f t108).bind fun t121 => (some ((t121.length : Int) == 2))) else (some false))) else (some false))) else (some false)) else (some false)) else (none))) else (some false)) else (none)) else (some false))))
set_option maxHeartbeats 8000000 in
set_option maxRecDepth 100000 in
theorem porterlaw22_awake.calls  (r : Bool) (w : World) (h : porterlaw22_awake.f  = some r) :
    Calls Try.prog 6 #[] w fun e w' => e = .returned (.bool r) ∧ Below w.heap.size w w' := by
  have hu51 := Try.underlying51
  have HB := Aside0.mk (Below.refl w.heap.size w)
  have H : ((porterlaw22_viewer.f (⟨#[117, 115, 101, 114, 58, 97, 110, 110]⟩ : ByteArray)).bind fun bt102 => ((some (([(⟨(⟨bt102.1, bt102.2.1, bt102.2.2⟩ : S25), 3, 5⟩ : S51)] : List (S51)) : List (S51))).bind fun y105 => ((watch_Changes.f y105 0 9).bind fun t108 => (if (t108.length : Int) = 2 then (if 0 < (t108.length : Int) then (if ((rd_T29 t108 0).f0) = 3 then (if ((rd_T29 t108 0).f1.f0 = true) then (some false) else (if 1 < (t108.length : Int) then (if ((rd_T29 t108 1).f0) = 5 then (if (rd_T29 t108 1).f1.f0 = true then ((watch_At.f y105 4).bind fun t115 => (if (t115.length : Int) = 1 then ((watch_Rows.f t108).bind fun t118 => (if (t118.length : Int) = 1 then ((watch_Back.f t108).bind fun t121 => (some ((t121.length : Int) == 2))) else (some false))) else (some false))) else (some false)) else (some false)) else (none))) else (some false)) else (none)) else (some false))))) = some r := h
  clear h
  replace H := Option.bind_eq_some_iff.mp H
  obtain ⟨⟨t102, t103, t104⟩, A10, H⟩ := H
  replace H : ((some (([(⟨(⟨t102, t103, t104⟩ : S25), 3, 5⟩ : S51)] : List (S51)) : List (S51))).bind fun y105 => ((watch_Changes.f y105 0 9).bind fun t108 => (if (t108.length : Int) = 2 then (if 0 < (t108.length : Int) then (if ((rd_T29 t108 0).f0) = 3 then (if ((rd_T29 t108 0).f1.f0 = true) then (some false) else (if 1 < (t108.length : Int) then (if ((rd_T29 t108 1).f0) = 5 then (if (rd_T29 t108 1).f1.f0 = true then ((watch_At.f y105 4).bind fun t115 => (if (t115.length : Int) = 1 then ((watch_Rows.f t108).bind fun t118 => (if (t118.length : Int) = 1 then ((watch_Back.f t108).bind fun t121 => (some ((t121.length : Int) == 2))) else (some false))) else (some false))) else (some false)) else (some false)) else (none))) else (some false)) else (none)) else (some false)))) = some r := H
  have A1 := Aside0.mk A10
  clear A10
  obtain ⟨y105, hy105⟩ : ∃ y_ : List (S51), y_ = (([(⟨(⟨t102, t103, t104⟩ : S25), 3, 5⟩ : S51)] : List (S51))) := ⟨_, rfl⟩
  replace H : ((watch_Changes.f y105 0 9).bind fun t108 => (if (t108.length : Int) = 2 then (if 0 < (t108.length : Int) then (if ((rd_T29 t108 0).f0) = 3 then (if ((rd_T29 t108 0).f1.f0 = true) then (some false) else (if 1 < (t108.length : Int) then (if ((rd_T29 t108 1).f0) = 5 then (if (rd_T29 t108 1).f1.f0 = true then ((watch_At.f y105 4).bind fun t115 => (if (t115.length : Int) = 1 then ((watch_Rows.f t108).bind fun t118 => (if (t118.length : Int) = 1 then ((watch_Back.f t108).bind fun t121 => (some ((t121.length : Int) == 2))) else (some false))) else (some false))) else (some false)) else (some false)) else (none))) else (some false)) else (none)) else (some false))) = some r := by first | (rw [hy105]; with_reducible exact H) | (have H2_ := (Option.bind_some _ _).symm.trans H; rw [hy105]; with_reducible exact H2_) | (have H2_ := (Option.bind_some _ _).symm.trans H; with_reducible exact H2_) | with_reducible exact H | (rw [hy105]; exact H) | exact H
  have Ny105 := Aside0.mk hy105
  clear hy105
  replace H := Option.bind_eq_some_iff.mp H
  obtain ⟨t108, A20, H⟩ := H
  replace H : (if (t108.length : Int) = 2 then (if 0 < (t108.length : Int) then (if ((rd_T29 t108 0).f0) = 3 then (if ((rd_T29 t108 0).f1.f0 = true) then (some false) else (if 1 < (t108.length : Int) then (if ((rd_T29 t108 1).f0) = 5 then (if (rd_T29 t108 1).f1.f0 = true then ((watch_At.f y105 4).bind fun t115 => (if (t115.length : Int) = 1 then ((watch_Rows.f t108).bind fun t118 => (if (t118.length : Int) = 1 then ((watch_Back.f t108).bind fun t121 => (some ((t121.length : Int) == 2))) else (some false))) else (some false))) else (some false)) else (some false)) else (none))) else (some false)) else (none)) else (some false)) = some r := H
  have A2 := Aside0.mk A20
  clear A20
  by_cases c3 : (t108.length : Int) = 2
  · rw [if_pos c3] at H
    have c3b0 : ((t108.length : Int) == 2) = true := beq_iff_eq.mpr c3
    have c3b1 : ((t108.length : Int) != 2) = false := bne_eq_false_iff_eq.mpr c3
    clear c3
    by_cases c4 : 0 < (t108.length : Int)
    · rw [if_pos c4] at H
      have c4b0 : decide (0 < (t108.length : Int)) = true := decide_eq_true c4
      have c4b1 : decide (0 < t108.length) = true := decide_eq_true (by omega)
      clear c4
      by_cases c5 : ((rd_T29 t108 0).f0) = 3
      · rw [if_pos c5] at H
        have c5b0 : (((rd_T29 t108 0).f0) == 3) = true := beq_iff_eq.mpr c5
        have c5b1 : (((rd_T29 t108 0).f0) != 3) = false := bne_eq_false_iff_eq.mpr c5
        clear c5
        obtain ⟨bq6, hbq6⟩ : ∃ b_ : Bool, b_ = ((rd_T29 t108 0).f1.f0) := ⟨_, rfl⟩
        replace H : (if (bq6 = true) then (some false) else (if 1 < (t108.length : Int) then (if ((rd_T29 t108 1).f0) = 5 then (if (rd_T29 t108 1).f1.f0 = true then ((watch_At.f y105 4).bind fun t115 => (if (t115.length : Int) = 1 then ((watch_Rows.f t108).bind fun t118 => (if (t118.length : Int) = 1 then ((watch_Back.f t108).bind fun t121 => (some ((t121.length : Int) == 2))) else (some false))) else (some false))) else (some false)) else (some false)) else (none))) = some r := by rw [← hbq6] at H; exact H
        have Nbq6 := Aside0.mk hbq6
        clear hbq6
        by_cases c7 : (bq6 = true)
        · subst c7
          have H1 : (some false) = some r := by rw [if_pos rfl] at H; exact H
          clear H
          have H := H1
          clear H1
          obtain rfl := Option.some.inj H
          go_enter Try.func6, Try.ntmps6
          go_wp2_with (first | ((with_reducible refine gate_callee (f := 20) rfl ?_); refine goesL_ (some 3) rfl rfl Try.func20 (by kernel_rfl) rfl #[.string (⟨#[117, 115, 101, 114, 58, 97, 110, 110]⟩ : ByteArray)] rfl (by (try simp only [List.map_toArray, List.map_cons, List.map_nil]); first | done | rfl | (simp only [List.length_drop, List.length_take]; rfl)) ?_; (with_reducible refine (porterlaw22_viewer.calls (⟨#[117, 115, 101, 114, 58, 97, 110, 110]⟩ : ByteArray) t102 t103 t104 _ A1.out).mono ?_); rintro e w8 ⟨rfl, hb⟩; refine ⟨_, rfl, ?_⟩; have n0_ := Aside0.mk (below_step (by repeat (first | (with_reducible first | exact HB.out | apply below_alloc | apply pw_below_drewN | apply below_drew1) | exact HB.out)) hb); clear HB; have HB := n0_; clear n0_; (try clear hb); (try clear hb2); (try clear hk); (try clear hi)) | ((with_reducible refine gate_dst (N := 5) rfl ?_); (try (refine gate_guard (by rfl) ?_; dsimp only)); refine Kd.R_lit k51 _ 51 ?hg (N := 5) ?hd (xs := ([(⟨(⟨t102, t103, t104⟩ : S25), 3, 5⟩ : S51)] : List (S51))) (inner := [.string t102, .string t103, .string t104, .int .i64 3, .int .i64 5]) (ok := fun _ => True) (okp := fun _ => True) ?hr ?hp (fun _ hk => hk) trivial (Below.refl _ _) (Nat.le_refl _) (by simp) ?_; (case hd => rfl); (case hg => rfl); (case hr => first | (go_simp; done) | (go_simp; rfl)); (case hp => exact (Reps.c5 (show Kd.M k51 _ _ _ (⟨(⟨t102, t103, t104⟩ : S25), 3, 5⟩ : S51) [.string t102, .string t103, .string t104, .int .i64 3, .int .i64 5] from (k51_mkM _ _ _ (⟨(⟨t102, t103, t104⟩ : S25), 3, 5⟩ : S51) )) (Reps.none _ _))); intro v106 w9 ho10 hb hg_ hnew_; clear hg_ hnew_; (first | rw [← Ny105.out] at ho10 | (simp only [Int.reduceToNat] at ho10; rw [← Ny105.out] at ho10)); have n0_ := Aside0.mk (Kd.R_lower ho10 (below_size (by repeat (first | (with_reducible first | exact HB.out | apply below_alloc | apply pw_below_drewN | apply below_drew1) | exact HB.out)))); have n1_ := Aside0.mk (below_step (by repeat (first | (with_reducible first | exact HB.out | apply below_alloc | apply pw_below_drewN | apply below_drew1) | exact HB.out)) hb); clear HB; have HO107 := n0_; have HB := n1_; clear n0_ n1_; clear hb ho10; obtain ⟨Ao11, co11, eo11⟩ := Kd.R_slice HO107.out; subst eo11) | ((with_reducible refine gate_callee (f := 8) rfl ?_); refine goesL_ (some 7) rfl rfl Try.func8 (by kernel_rfl) rfl #[.slice Ao11 y105.length co11, .int .i64 0, .int .i64 9] rfl (by (try simp only [List.map_toArray, List.map_cons, List.map_nil]); first | done | rfl | (simp only [List.length_drop, List.length_take]; rfl)) ?_; (with_reducible refine (watch_Changes.calls _ _ y105 0 9 t108 _ ?side1 ?side2 A2.out).mono ?_); (case side1 => repeat (first | exact (Kd.R_reads' HO107.out).2.2 | (with_reducible refine Kd.C_alloc ?_ _) | (with_reducible refine Kd.C_drewN ?_ _) | (with_reducible refine Kd.C_drew ?_))); (case side2 => exact (Kd.R_reads' HO107.out).2.1); rintro e w12 ⟨v109, rfl, ho0, hb⟩; refine ⟨_, rfl, ?_⟩; have n0_ := Aside0.mk (Kd.R_below (by (with_reducible repeat (first | apply Kd.R_alloc | apply Kd.R_drewN | apply Kd.R_drew)); exact HO107.out) hb); have n1_ := Aside0.mk (Kd.R_lower ho0 (below_size (by repeat (first | (with_reducible first | exact HB.out | apply below_alloc | apply pw_below_drewN | apply below_drew1) | exact HB.out)))); have n2_ := Aside0.mk (below_step (by repeat (first | (with_reducible first | exact HB.out | apply below_alloc | apply pw_below_drewN | apply below_drew1) | exact HB.out)) hb); clear HO107; clear HB; have HO107 := n0_; have HO110 := n1_; have HB := n2_; clear n0_ n1_ n2_; (try clear hb); (try clear hb2); (try clear hk); (try clear hi); (try clear ho0); obtain ⟨Ao13, co13, eo13⟩ := Kd.R_slice HO110.out; subst eo13; have p111 : 0 ≤ (0 : Int) := (by omega); have q111 : 0 < (t108.length : Int) := of_decide_eq_true (by first | (with_reducible assumption) | assumption); obtain ⟨ad111, e111, hx111_0, hx111_1, hx111_2, hx111_3, hx111_4⟩ := at_T29 (Kd.R_reads' HO110.out).2.2 0 p111 q111; (try rw [← Nbq6.out] at hx111_1); cases e111; have qi111 : (0 < t108.length) = True := eq_true (by omega); (try rw [show ((0 : Int)).toNat = 0 from rfl] at hx111_0); (try rw [show 0 * 5 = 0 from rfl] at hx111_0); (try rw [Addr.add_zero'] at hx111_0); (try rw [show ((0 : Int)).toNat = 0 from rfl] at hx111_1); (try rw [show 0 * 5 = 0 from rfl] at hx111_1); (try rw [Addr.add_zero'] at hx111_1); (try rw [show ((0 : Int)).toNat = 0 from rfl] at hx111_2); (try rw [show 0 * 5 = 0 from rfl] at hx111_2); (try rw [Addr.add_zero'] at hx111_2); (try rw [show ((0 : Int)).toNat = 0 from rfl] at hx111_3); (try rw [show 0 * 5 = 0 from rfl] at hx111_3); (try rw [Addr.add_zero'] at hx111_3); (try rw [show ((0 : Int)).toNat = 0 from rfl] at hx111_4); (try rw [show 0 * 5 = 0 from rfl] at hx111_4); (try rw [Addr.add_zero'] at hx111_4); replace p111 := eq_true p111; replace q111 := eq_true q111; have p112 : 0 ≤ (0 : Int) := (by omega); have q112 : 0 < (t108.length : Int) := of_decide_eq_true (by first | (with_reducible assumption) | assumption); obtain ⟨ad112, e112, hx112_0, hx112_1, hx112_2, hx112_3, hx112_4⟩ := at_T29 (Kd.R_reads' HO110.out).2.2 0 p112 q112; (try rw [← Nbq6.out] at hx112_1); obtain rfl : ad111 = ad112 := (by injection e112); have qi112 : (0 < t108.length) = True := eq_true (by omega); (try rw [show ((0 : Int)).toNat = 0 from rfl] at hx112_0); (try rw [show 0 * 5 = 0 from rfl] at hx112_0); (try rw [Addr.add_zero'] at hx112_0); (try rw [show ((0 : Int)).toNat = 0 from rfl] at hx112_1); (try rw [show 0 * 5 = 0 from rfl] at hx112_1); (try rw [Addr.add_zero'] at hx112_1); (try rw [show ((0 : Int)).toNat = 0 from rfl] at hx112_2); (try rw [show 0 * 5 = 0 from rfl] at hx112_2); (try rw [Addr.add_zero'] at hx112_2); (try rw [show ((0 : Int)).toNat = 0 from rfl] at hx112_3); (try rw [show 0 * 5 = 0 from rfl] at hx112_3); (try rw [Addr.add_zero'] at hx112_3); (try rw [show ((0 : Int)).toNat = 0 from rfl] at hx112_4); (try rw [show 0 * 5 = 0 from rfl] at hx112_4); (try rw [Addr.add_zero'] at hx112_4); replace p112 := eq_true p112; replace q112 := eq_true q112))
          go_ret
          exact ⟨by first | rfl | (simp [errW_none, errW_some] <;> rfl) | (simp [*, errW_none, errW_some] <;> rfl), by repeat (first | (with_reducible first | exact HB.out | apply below_alloc | apply pw_below_drewN | apply below_drew1) | exact HB.out)⟩
        · replace c7 := Bool.eq_false_iff.mpr c7
          subst c7
          have H1 : (if 1 < (t108.length : Int) then (if ((rd_T29 t108 1).f0) = 5 then (if (rd_T29 t108 1).f1.f0 = true then ((watch_At.f y105 4).bind fun t115 => (if (t115.length : Int) = 1 then ((watch_Rows.f t108).bind fun t118 => (if (t118.length : Int) = 1 then ((watch_Back.f t108).bind fun t121 => (some ((t121.length : Int) == 2))) else (some false))) else (some false))) else (some false)) else (some false)) else (none)) = some r := by rw [if_neg (show ¬ (false = true) by decide)] at H; exact H
          clear H
          have H := H1
          clear H1
          by_cases c14 : 1 < (t108.length : Int)
          · rw [if_pos c14] at H
            have c14b0 : decide (1 < (t108.length : Int)) = true := decide_eq_true c14
            have c14b1 : decide (1 < t108.length) = true := decide_eq_true (by omega)
            clear c14
            by_cases c15 : ((rd_T29 t108 1).f0) = 5
            · rw [if_pos c15] at H
              have c15b0 : (((rd_T29 t108 1).f0) == 5) = true := beq_iff_eq.mpr c15
              have c15b1 : (((rd_T29 t108 1).f0) != 5) = false := bne_eq_false_iff_eq.mpr c15
              clear c15
              obtain ⟨bq16, hbq16⟩ : ∃ b_ : Bool, b_ = ((rd_T29 t108 1).f1.f0) := ⟨_, rfl⟩
              replace H : (if bq16 = true then ((watch_At.f y105 4).bind fun t115 => (if (t115.length : Int) = 1 then ((watch_Rows.f t108).bind fun t118 => (if (t118.length : Int) = 1 then ((watch_Back.f t108).bind fun t121 => (some ((t121.length : Int) == 2))) else (some false))) else (some false))) else (some false)) = some r := by rw [← hbq16] at H; exact H
              have Nbq16 := Aside0.mk hbq16
              clear hbq16
              by_cases c17 : bq16 = true
              · subst c17
                have H1 : ((watch_At.f y105 4).bind fun t115 => (if (t115.length : Int) = 1 then ((watch_Rows.f t108).bind fun t118 => (if (t118.length : Int) = 1 then ((watch_Back.f t108).bind fun t121 => (some ((t121.length : Int) == 2))) else (some false))) else (some false))) = some r := by rw [if_pos rfl] at H; exact H
                clear H
                have H := H1
                clear H1
                replace H := Option.bind_eq_some_iff.mp H
                obtain ⟨t115, A180, H⟩ := H
                replace H : (if (t115.length : Int) = 1 then ((watch_Rows.f t108).bind fun t118 => (if (t118.length : Int) = 1 then ((watch_Back.f t108).bind fun t121 => (some ((t121.length : Int) == 2))) else (some false))) else (some false)) = some r := H
                have A18 := Aside0.mk A180
                clear A180
                by_cases c19 : (t115.length : Int) = 1
                · rw [if_pos c19] at H
                  have c19b0 : ((t115.length : Int) == 1) = true := beq_iff_eq.mpr c19
                  have c19b1 : ((t115.length : Int) != 1) = false := bne_eq_false_iff_eq.mpr c19
                  clear c19
                  replace H := Option.bind_eq_some_iff.mp H
                  obtain ⟨t118, A200, H⟩ := H
                  replace H : (if (t118.length : Int) = 1 then ((watch_Back.f t108).bind fun t121 => (some ((t121.length : Int) == 2))) else (some false)) = some r := H
                  have A20 := Aside0.mk A200
                  clear A200
                  by_cases c21 : (t118.length : Int) = 1
                  · rw [if_pos c21] at H
                    have c21b0 : ((t118.length : Int) == 1) = true := beq_iff_eq.mpr c21
                    have c21b1 : ((t118.length : Int) != 1) = false := bne_eq_false_iff_eq.mpr c21
                    clear c21
                    replace H := Option.bind_eq_some_iff.mp H
                    obtain ⟨t121, A220, H⟩ := H
                    replace H : (some ((t121.length : Int) == 2)) = some r := H
                    have A22 := Aside0.mk A220
                    clear A220
                    obtain rfl := Option.some.inj H
                    go_enter Try.func6, Try.ntmps6
                    go_wp2_with (first | ((with_reducible refine gate_callee (f := 20) rfl ?_); refine goesL_ (some 3) rfl rfl Try.func20 (by kernel_rfl) rfl #[.string (⟨#[117, 115, 101, 114, 58, 97, 110, 110]⟩ : ByteArray)] rfl (by (try simp only [List.map_toArray, List.map_cons, List.map_nil]); first | done | rfl | (simp only [List.length_drop, List.length_take]; rfl)) ?_; (with_reducible refine (porterlaw22_viewer.calls (⟨#[117, 115, 101, 114, 58, 97, 110, 110]⟩ : ByteArray) t102 t103 t104 _ A1.out).mono ?_); rintro e w23 ⟨rfl, hb⟩; refine ⟨_, rfl, ?_⟩; have n0_ := Aside0.mk (below_step (by repeat (first | (with_reducible first | exact HB.out | apply below_alloc | apply pw_below_drewN | apply below_drew1) | exact HB.out)) hb); clear HB; have HB := n0_; clear n0_; (try clear hb); (try clear hb2); (try clear hk); (try clear hi)) | ((with_reducible refine gate_dst (N := 5) rfl ?_); (try (refine gate_guard (by rfl) ?_; dsimp only)); refine Kd.R_lit k51 _ 51 ?hg (N := 5) ?hd (xs := ([(⟨(⟨t102, t103, t104⟩ : S25), 3, 5⟩ : S51)] : List (S51))) (inner := [.string t102, .string t103, .string t104, .int .i64 3, .int .i64 5]) (ok := fun _ => True) (okp := fun _ => True) ?hr ?hp (fun _ hk => hk) trivial (Below.refl _ _) (Nat.le_refl _) (by simp) ?_; (case hd => rfl); (case hg => rfl); (case hr => first | (go_simp; done) | (go_simp; rfl)); (case hp => exact (Reps.c5 (show Kd.M k51 _ _ _ (⟨(⟨t102, t103, t104⟩ : S25), 3, 5⟩ : S51) [.string t102, .string t103, .string t104, .int .i64 3, .int .i64 5] from (k51_mkM _ _ _ (⟨(⟨t102, t103, t104⟩ : S25), 3, 5⟩ : S51) )) (Reps.none _ _))); intro v106 w24 ho25 hb hg_ hnew_; clear hg_ hnew_; (first | rw [← Ny105.out] at ho25 | (simp only [Int.reduceToNat] at ho25; rw [← Ny105.out] at ho25)); have n0_ := Aside0.mk (Kd.R_lower ho25 (below_size (by repeat (first | (with_reducible first | exact HB.out | apply below_alloc | apply pw_below_drewN | apply below_drew1) | exact HB.out)))); have n1_ := Aside0.mk (below_step (by repeat (first | (with_reducible first | exact HB.out | apply below_alloc | apply pw_below_drewN | apply below_drew1) | exact HB.out)) hb); clear HB; have HO107 := n0_; have HB := n1_; clear n0_ n1_; clear hb ho25; obtain ⟨Ao26, co26, eo26⟩ := Kd.R_slice HO107.out; subst eo26) | ((with_reducible refine gate_callee (f := 8) rfl ?_); refine goesL_ (some 7) rfl rfl Try.func8 (by kernel_rfl) rfl #[.slice Ao26 y105.length co26, .int .i64 0, .int .i64 9] rfl (by (try simp only [List.map_toArray, List.map_cons, List.map_nil]); first | done | rfl | (simp only [List.length_drop, List.length_take]; rfl)) ?_; (with_reducible refine (watch_Changes.calls _ _ y105 0 9 t108 _ ?side1 ?side2 A2.out).mono ?_); (case side1 => repeat (first | exact (Kd.R_reads' HO107.out).2.2 | (with_reducible refine Kd.C_alloc ?_ _) | (with_reducible refine Kd.C_drewN ?_ _) | (with_reducible refine Kd.C_drew ?_))); (case side2 => exact (Kd.R_reads' HO107.out).2.1); rintro e w27 ⟨v109, rfl, ho0, hb⟩; refine ⟨_, rfl, ?_⟩; have n0_ := Aside0.mk (Kd.R_below (by (with_reducible repeat (first | apply Kd.R_alloc | apply Kd.R_drewN | apply Kd.R_drew)); exact HO107.out) hb); have n1_ := Aside0.mk (Kd.R_lower ho0 (below_size (by repeat (first | (with_reducible first | exact HB.out | apply below_alloc | apply pw_below_drewN | apply below_drew1) | exact HB.out)))); have n2_ := Aside0.mk (below_step (by repeat (first | (with_reducible first | exact HB.out | apply below_alloc | apply pw_below_drewN | apply below_drew1) | exact HB.out)) hb); clear HO107; clear HB; have HO107 := n0_; have HO110 := n1_; have HB := n2_; clear n0_ n1_ n2_; (try clear hb); (try clear hb2); (try clear hk); (try clear hi); (try clear ho0); obtain ⟨Ao28, co28, eo28⟩ := Kd.R_slice HO110.out; subst eo28; have p111 : 0 ≤ (0 : Int) := (by omega); have q111 : 0 < (t108.length : Int) := of_decide_eq_true (by first | (with_reducible assumption) | assumption); obtain ⟨ad111, e111, hx111_0, hx111_1, hx111_2, hx111_3, hx111_4⟩ := at_T29 (Kd.R_reads' HO110.out).2.2 0 p111 q111; (try rw [← Nbq6.out] at hx111_1); (try rw [← Nbq16.out] at hx111_1); cases e111; have qi111 : (0 < t108.length) = True := eq_true (by omega); (try rw [show ((0 : Int)).toNat = 0 from rfl] at hx111_0); (try rw [show 0 * 5 = 0 from rfl] at hx111_0); (try rw [Addr.add_zero'] at hx111_0); (try rw [show ((0 : Int)).toNat = 0 from rfl] at hx111_1); (try rw [show 0 * 5 = 0 from rfl] at hx111_1); (try rw [Addr.add_zero'] at hx111_1); (try rw [show ((0 : Int)).toNat = 0 from rfl] at hx111_2); (try rw [show 0 * 5 = 0 from rfl] at hx111_2); (try rw [Addr.add_zero'] at hx111_2); (try rw [show ((0 : Int)).toNat = 0 from rfl] at hx111_3); (try rw [show 0 * 5 = 0 from rfl] at hx111_3); (try rw [Addr.add_zero'] at hx111_3); (try rw [show ((0 : Int)).toNat = 0 from rfl] at hx111_4); (try rw [show 0 * 5 = 0 from rfl] at hx111_4); (try rw [Addr.add_zero'] at hx111_4); replace p111 := eq_true p111; replace q111 := eq_true q111; have p112 : 0 ≤ (0 : Int) := (by omega); have q112 : 0 < (t108.length : Int) := of_decide_eq_true (by first | (with_reducible assumption) | assumption); obtain ⟨ad112, e112, hx112_0, hx112_1, hx112_2, hx112_3, hx112_4⟩ := at_T29 (Kd.R_reads' HO110.out).2.2 0 p112 q112; (try rw [← Nbq6.out] at hx112_1); (try rw [← Nbq16.out] at hx112_1); obtain rfl : ad111 = ad112 := (by injection e112); have qi112 : (0 < t108.length) = True := eq_true (by omega); (try rw [show ((0 : Int)).toNat = 0 from rfl] at hx112_0); (try rw [show 0 * 5 = 0 from rfl] at hx112_0); (try rw [Addr.add_zero'] at hx112_0); (try rw [show ((0 : Int)).toNat = 0 from rfl] at hx112_1); (try rw [show 0 * 5 = 0 from rfl] at hx112_1); (try rw [Addr.add_zero'] at hx112_1); (try rw [show ((0 : Int)).toNat = 0 from rfl] at hx112_2); (try rw [show 0 * 5 = 0 from rfl] at hx112_2); (try rw [Addr.add_zero'] at hx112_2); (try rw [show ((0 : Int)).toNat = 0 from rfl] at hx112_3); (try rw [show 0 * 5 = 0 from rfl] at hx112_3); (try rw [Addr.add_zero'] at hx112_3); (try rw [show ((0 : Int)).toNat = 0 from rfl] at hx112_4); (try rw [show 0 * 5 = 0 from rfl] at hx112_4); (try rw [Addr.add_zero'] at hx112_4); replace p112 := eq_true p112; replace q112 := eq_true q112; have p113 : 0 ≤ (1 : Int) := (by omega); have q113 : 1 < (t108.length : Int) := of_decide_eq_true (by first | (with_reducible assumption) | assumption); obtain ⟨ad113, e113, hx113_0, hx113_1, hx113_2, hx113_3, hx113_4⟩ := at_T29 (Kd.R_reads' HO110.out).2.2 1 p113 q113; (try rw [← Nbq6.out] at hx113_1); (try rw [← Nbq16.out] at hx113_1); obtain rfl : ad111 = ad113 := (by injection e113); (try simp only [show (1 : Int).toNat = 1 from rfl, Nat.reduceMul, Nat.reduceEqDiff, Go.Addr.add, ↓reduceIte] at hx113_0); (try simp only [show (1 : Int).toNat = 1 from rfl, Nat.reduceMul, Nat.reduceEqDiff, Go.Addr.add, ↓reduceIte] at hx113_1); (try simp only [show (1 : Int).toNat = 1 from rfl, Nat.reduceMul, Nat.reduceEqDiff, Go.Addr.add, ↓reduceIte] at hx113_2); (try simp only [show (1 : Int).toNat = 1 from rfl, Nat.reduceMul, Nat.reduceEqDiff, Go.Addr.add, ↓reduceIte] at hx113_3); (try simp only [show (1 : Int).toNat = 1 from rfl, Nat.reduceMul, Nat.reduceEqDiff, Go.Addr.add, ↓reduceIte] at hx113_4); have qi113 : (1 < t108.length) = True := eq_true (by omega); (try rw [show ((1 : Int)).toNat = 1 from rfl] at hx113_0); (try rw [show 1 * 5 = 5 from rfl] at hx113_0); (try rw [show ((1 : Int)).toNat = 1 from rfl] at hx113_1); (try rw [show 1 * 5 = 5 from rfl] at hx113_1); (try rw [show ((1 : Int)).toNat = 1 from rfl] at hx113_2); (try rw [show 1 * 5 = 5 from rfl] at hx113_2); (try rw [show ((1 : Int)).toNat = 1 from rfl] at hx113_3); (try rw [show 1 * 5 = 5 from rfl] at hx113_3); (try rw [show ((1 : Int)).toNat = 1 from rfl] at hx113_4); (try rw [show 1 * 5 = 5 from rfl] at hx113_4); replace p113 := eq_true p113; replace q113 := eq_true q113; have p114 : 0 ≤ (1 : Int) := (by omega); have q114 : 1 < (t108.length : Int) := of_decide_eq_true (by first | (with_reducible assumption) | assumption); obtain ⟨ad114, e114, hx114_0, hx114_1, hx114_2, hx114_3, hx114_4⟩ := at_T29 (Kd.R_reads' HO110.out).2.2 1 p114 q114; (try rw [← Nbq6.out] at hx114_1); (try rw [← Nbq16.out] at hx114_1); obtain rfl : ad111 = ad114 := (by injection e114); (try simp only [show (1 : Int).toNat = 1 from rfl, Nat.reduceMul, Nat.reduceEqDiff, Go.Addr.add, ↓reduceIte] at hx114_0); (try simp only [show (1 : Int).toNat = 1 from rfl, Nat.reduceMul, Nat.reduceEqDiff, Go.Addr.add, ↓reduceIte] at hx114_1); (try simp only [show (1 : Int).toNat = 1 from rfl, Nat.reduceMul, Nat.reduceEqDiff, Go.Addr.add, ↓reduceIte] at hx114_2); (try simp only [show (1 : Int).toNat = 1 from rfl, Nat.reduceMul, Nat.reduceEqDiff, Go.Addr.add, ↓reduceIte] at hx114_3); (try simp only [show (1 : Int).toNat = 1 from rfl, Nat.reduceMul, Nat.reduceEqDiff, Go.Addr.add, ↓reduceIte] at hx114_4); have qi114 : (1 < t108.length) = True := eq_true (by omega); (try rw [show ((1 : Int)).toNat = 1 from rfl] at hx114_0); (try rw [show 1 * 5 = 5 from rfl] at hx114_0); (try rw [show ((1 : Int)).toNat = 1 from rfl] at hx114_1); (try rw [show 1 * 5 = 5 from rfl] at hx114_1); (try rw [show ((1 : Int)).toNat = 1 from rfl] at hx114_2); (try rw [show 1 * 5 = 5 from rfl] at hx114_2); (try rw [show ((1 : Int)).toNat = 1 from rfl] at hx114_3); (try rw [show 1 * 5 = 5 from rfl] at hx114_3); (try rw [show ((1 : Int)).toNat = 1 from rfl] at hx114_4); (try rw [show 1 * 5 = 5 from rfl] at hx114_4); replace p114 := eq_true p114; replace q114 := eq_true q114) | (go_at_call 18; (with_reducible refine (watch_At.calls _ _ y105 4 t115 _ ?side1 ?side2 A18.out).mono ?_); (case side1 => repeat (first | exact (Kd.R_reads' HO107.out).2.2 | (with_reducible refine Kd.C_alloc ?_ _) | (with_reducible refine Kd.C_drewN ?_ _) | (with_reducible refine Kd.C_drew ?_))); (case side2 => exact (Kd.R_reads' HO107.out).2.1); rintro e w29 ⟨v116, rfl, ho0, hb⟩; have n0_ := Aside0.mk (Kd.R_below (by (with_reducible repeat (first | apply Kd.R_alloc | apply Kd.R_drewN | apply Kd.R_drew)); exact HO107.out) hb); have n1_ := Aside0.mk (Kd.R_below (by (with_reducible repeat (first | apply Kd.R_alloc | apply Kd.R_drewN | apply Kd.R_drew)); exact HO110.out) hb); have n2_ := Aside0.mk (Kd.R_lower ho0 (below_size (by repeat (first | (with_reducible first | exact HB.out | apply below_alloc | apply pw_below_drewN | apply below_drew1) | exact HB.out)))); have n3_ := Aside0.mk (below_step (by repeat (first | (with_reducible first | exact HB.out | apply below_alloc | apply pw_below_drewN | apply below_drew1) | exact HB.out)) hb); clear HO107; clear HO110; clear HB; have HO107 := n0_; have HO110 := n1_; have HO117 := n2_; have HB := n3_; clear n0_ n1_ n2_ n3_; (try clear hb); (try clear hb2); (try clear hk); (try clear hi); (try clear ho0); obtain ⟨Ao30, co30, eo30⟩ := Kd.R_slice HO117.out; subst eo30) | (go_at_call 7; (with_reducible refine (watch_Rows.calls _ _ t108 t118 _ ?side1 ?side2 A20.out).mono ?_); (case side1 => repeat (first | exact (Kd.R_reads' HO110.out).2.2 | (with_reducible refine Kd.C_alloc ?_ _) | (with_reducible refine Kd.C_drewN ?_ _) | (with_reducible refine Kd.C_drew ?_))); (case side2 => exact (Kd.R_reads' HO110.out).2.1); rintro e w31 ⟨v119, rfl, ho0, hb⟩; have n0_ := Aside0.mk (Kd.R_elder' (by (with_reducible repeat (first | apply Kd.R_alloc | apply Kd.R_drewN | apply Kd.R_drew)); exact HO107.out) (Kd.R_base ho0) hb); have n1_ := Aside0.mk (Kd.R_below (by (with_reducible repeat (first | apply Kd.R_alloc | apply Kd.R_drewN | apply Kd.R_drew)); exact HO110.out) hb); have n2_ := Aside0.mk (Kd.R_below (by (with_reducible repeat (first | apply Kd.R_alloc | apply Kd.R_drewN | apply Kd.R_drew)); exact HO117.out) hb); have n3_ := Aside0.mk (Kd.R_lower (Kd.R_new' ho0 (Kd.R_lt (by (with_reducible repeat (first | apply Kd.R_alloc | apply Kd.R_drewN | apply Kd.R_drew)); exact HO107.out))) (below_size (by repeat (first | (with_reducible first | exact HB.out | apply below_alloc | apply pw_below_drewN | apply below_drew1) | exact HB.out)))); have n4_ := Aside0.mk (below_step (by repeat (first | (with_reducible first | exact HB.out | apply below_alloc | apply pw_below_drewN | apply below_drew1) | exact HB.out)) hb); clear HO107; clear HO110; clear HO117; clear HB; have HO107 := n0_; have HO110 := n1_; have HO117 := n2_; have HO120 := n3_; have HB := n4_; clear n0_ n1_ n2_ n3_ n4_; (try clear hb); (try clear hb2); (try clear hk); (try clear hi); (try clear ho0); obtain ⟨Ao32, co32, eo32⟩ := Kd.R_slice HO120.out; subst eo32) | (go_at_call 19; (with_reducible refine (watch_Back.calls _ _ t108 t121 _ ?side1 ?side2 A22.out).mono ?_); (case side1 => repeat (first | exact (Kd.R_reads' HO110.out).2.2 | (with_reducible refine Kd.C_alloc ?_ _) | (with_reducible refine Kd.C_drewN ?_ _) | (with_reducible refine Kd.C_drew ?_))); (case side2 => exact (Kd.R_reads' HO110.out).2.1); rintro e w33 ⟨v122, rfl, ho0, hb⟩; have n0_ := Aside0.mk (Kd.R_below (by (with_reducible repeat (first | apply Kd.R_alloc | apply Kd.R_drewN | apply Kd.R_drew)); exact HO107.out) hb); have n1_ := Aside0.mk (Kd.R_elder' (by (with_reducible repeat (first | apply Kd.R_alloc | apply Kd.R_drewN | apply Kd.R_drew)); exact HO110.out) (Kd.R_base ho0) hb); have n2_ := Aside0.mk (Kd.R_below (by (with_reducible repeat (first | apply Kd.R_alloc | apply Kd.R_drewN | apply Kd.R_drew)); exact HO117.out) hb); have n3_ := Aside0.mk (Kd.R_below (by (with_reducible repeat (first | apply Kd.R_alloc | apply Kd.R_drewN | apply Kd.R_drew)); exact HO120.out) hb); have n4_ := Aside0.mk (Kd.R_lower (Kd.R_new' ho0 (Kd.R_lt (by (with_reducible repeat (first | apply Kd.R_alloc | apply Kd.R_drewN | apply Kd.R_drew)); exact HO110.out))) (below_size (by repeat (first | (with_reducible first | exact HB.out | apply below_alloc | apply pw_below_drewN | apply below_drew1) | exact HB.out)))); have n5_ := Aside0.mk (below_step (by repeat (first | (with_reducible first | exact HB.out | apply below_alloc | apply pw_below_drewN | apply below_drew1) | exact HB.out)) hb); clear HO107; clear HO110; clear HO117; clear HO120; clear HB; have HO107 := n0_; have HO110 := n1_; have HO117 := n2_; have HO120 := n3_; have HO123 := n4_; have HB := n5_; clear n0_ n1_ n2_ n3_ n4_ n5_; (try clear hb); (try clear hb2); (try clear hk); (try clear hi); (try clear ho0); obtain ⟨Ao34, co34, eo34⟩ := Kd.R_slice HO123.out; subst eo34))
                    go_ret
                    exact ⟨by first | rfl | (simp [errW_none, errW_some] <;> rfl) | (simp [*, errW_none, errW_some] <;> rfl), by repeat (first | (with_reducible first | exact HB.out | apply below_alloc | apply pw_below_drewN | apply below_drew1) | exact HB.out)⟩
                  · rw [if_neg c21] at H
                    have c21b0 : ((t118.length : Int) == 1) = false := beq_eq_false_iff_ne.mpr c21
                    have c21b1 : ((t118.length : Int) != 1) = true := bne_iff_ne.mpr c21
                    obtain rfl := Option.some.inj H
                    go_enter Try.func6, Try.ntmps6
                    go_wp2_with (first | ((with_reducible refine gate_callee (f := 20) rfl ?_); refine goesL_ (some 3) rfl rfl Try.func20 (by kernel_rfl) rfl #[.string (⟨#[117, 115, 101, 114, 58, 97, 110, 110]⟩ : ByteArray)] rfl (by (try simp only [List.map_toArray, List.map_cons, List.map_nil]); first | done | rfl | (simp only [List.length_drop, List.length_take]; rfl)) ?_; (with_reducible refine (porterlaw22_viewer.calls (⟨#[117, 115, 101, 114, 58, 97, 110, 110]⟩ : ByteArray) t102 t103 t104 _ A1.out).mono ?_); rintro e w35 ⟨rfl, hb⟩; refine ⟨_, rfl, ?_⟩; have n0_ := Aside0.mk (below_step (by repeat (first | (with_reducible first | exact HB.out | apply below_alloc | apply pw_below_drewN | apply below_drew1) | exact HB.out)) hb); clear HB; have HB := n0_; clear n0_; (try clear hb); (try clear hb2); (try clear hk); (try clear hi)) | ((with_reducible refine gate_dst (N := 5) rfl ?_); (try (refine gate_guard (by rfl) ?_; dsimp only)); refine Kd.R_lit k51 _ 51 ?hg (N := 5) ?hd (xs := ([(⟨(⟨t102, t103, t104⟩ : S25), 3, 5⟩ : S51)] : List (S51))) (inner := [.string t102, .string t103, .string t104, .int .i64 3, .int .i64 5]) (ok := fun _ => True) (okp := fun _ => True) ?hr ?hp (fun _ hk => hk) trivial (Below.refl _ _) (Nat.le_refl _) (by simp) ?_; (case hd => rfl); (case hg => rfl); (case hr => first | (go_simp; done) | (go_simp; rfl)); (case hp => exact (Reps.c5 (show Kd.M k51 _ _ _ (⟨(⟨t102, t103, t104⟩ : S25), 3, 5⟩ : S51) [.string t102, .string t103, .string t104, .int .i64 3, .int .i64 5] from (k51_mkM _ _ _ (⟨(⟨t102, t103, t104⟩ : S25), 3, 5⟩ : S51) )) (Reps.none _ _))); intro v106 w36 ho37 hb hg_ hnew_; clear hg_ hnew_; (first | rw [← Ny105.out] at ho37 | (simp only [Int.reduceToNat] at ho37; rw [← Ny105.out] at ho37)); have n0_ := Aside0.mk (Kd.R_lower ho37 (below_size (by repeat (first | (with_reducible first | exact HB.out | apply below_alloc | apply pw_below_drewN | apply below_drew1) | exact HB.out)))); have n1_ := Aside0.mk (below_step (by repeat (first | (with_reducible first | exact HB.out | apply below_alloc | apply pw_below_drewN | apply below_drew1) | exact HB.out)) hb); clear HB; have HO107 := n0_; have HB := n1_; clear n0_ n1_; clear hb ho37; obtain ⟨Ao38, co38, eo38⟩ := Kd.R_slice HO107.out; subst eo38) | ((with_reducible refine gate_callee (f := 8) rfl ?_); refine goesL_ (some 7) rfl rfl Try.func8 (by kernel_rfl) rfl #[.slice Ao38 y105.length co38, .int .i64 0, .int .i64 9] rfl (by (try simp only [List.map_toArray, List.map_cons, List.map_nil]); first | done | rfl | (simp only [List.length_drop, List.length_take]; rfl)) ?_; (with_reducible refine (watch_Changes.calls _ _ y105 0 9 t108 _ ?side1 ?side2 A2.out).mono ?_); (case side1 => repeat (first | exact (Kd.R_reads' HO107.out).2.2 | (with_reducible refine Kd.C_alloc ?_ _) | (with_reducible refine Kd.C_drewN ?_ _) | (with_reducible refine Kd.C_drew ?_))); (case side2 => exact (Kd.R_reads' HO107.out).2.1); rintro e w39 ⟨v109, rfl, ho0, hb⟩; refine ⟨_, rfl, ?_⟩; have n0_ := Aside0.mk (Kd.R_below (by (with_reducible repeat (first | apply Kd.R_alloc | apply Kd.R_drewN | apply Kd.R_drew)); exact HO107.out) hb); have n1_ := Aside0.mk (Kd.R_lower ho0 (below_size (by repeat (first | (with_reducible first | exact HB.out | apply below_alloc | apply pw_below_drewN | apply below_drew1) | exact HB.out)))); have n2_ := Aside0.mk (below_step (by repeat (first | (with_reducible first | exact HB.out | apply below_alloc | apply pw_below_drewN | apply below_drew1) | exact HB.out)) hb); clear HO107; clear HB; have HO107 := n0_; have HO110 := n1_; have HB := n2_; clear n0_ n1_ n2_; (try clear hb); (try clear hb2); (try clear hk); (try clear hi); (try clear ho0); obtain ⟨Ao40, co40, eo40⟩ := Kd.R_slice HO110.out; subst eo40; have p111 : 0 ≤ (0 : Int) := (by omega); have q111 : 0 < (t108.length : Int) := of_decide_eq_true (by first | (with_reducible assumption) | assumption); obtain ⟨ad111, e111, hx111_0, hx111_1, hx111_2, hx111_3, hx111_4⟩ := at_T29 (Kd.R_reads' HO110.out).2.2 0 p111 q111; (try rw [← Nbq6.out] at hx111_1); (try rw [← Nbq16.out] at hx111_1); cases e111; have qi111 : (0 < t108.length) = True := eq_true (by omega); (try rw [show ((0 : Int)).toNat = 0 from rfl] at hx111_0); (try rw [show 0 * 5 = 0 from rfl] at hx111_0); (try rw [Addr.add_zero'] at hx111_0); (try rw [show ((0 : Int)).toNat = 0 from rfl] at hx111_1); (try rw [show 0 * 5 = 0 from rfl] at hx111_1); (try rw [Addr.add_zero'] at hx111_1); (try rw [show ((0 : Int)).toNat = 0 from rfl] at hx111_2); (try rw [show 0 * 5 = 0 from rfl] at hx111_2); (try rw [Addr.add_zero'] at hx111_2); (try rw [show ((0 : Int)).toNat = 0 from rfl] at hx111_3); (try rw [show 0 * 5 = 0 from rfl] at hx111_3); (try rw [Addr.add_zero'] at hx111_3); (try rw [show ((0 : Int)).toNat = 0 from rfl] at hx111_4); (try rw [show 0 * 5 = 0 from rfl] at hx111_4); (try rw [Addr.add_zero'] at hx111_4); replace p111 := eq_true p111; replace q111 := eq_true q111; have p112 : 0 ≤ (0 : Int) := (by omega); have q112 : 0 < (t108.length : Int) := of_decide_eq_true (by first | (with_reducible assumption) | assumption); obtain ⟨ad112, e112, hx112_0, hx112_1, hx112_2, hx112_3, hx112_4⟩ := at_T29 (Kd.R_reads' HO110.out).2.2 0 p112 q112; (try rw [← Nbq6.out] at hx112_1); (try rw [← Nbq16.out] at hx112_1); obtain rfl : ad111 = ad112 := (by injection e112); have qi112 : (0 < t108.length) = True := eq_true (by omega); (try rw [show ((0 : Int)).toNat = 0 from rfl] at hx112_0); (try rw [show 0 * 5 = 0 from rfl] at hx112_0); (try rw [Addr.add_zero'] at hx112_0); (try rw [show ((0 : Int)).toNat = 0 from rfl] at hx112_1); (try rw [show 0 * 5 = 0 from rfl] at hx112_1); (try rw [Addr.add_zero'] at hx112_1); (try rw [show ((0 : Int)).toNat = 0 from rfl] at hx112_2); (try rw [show 0 * 5 = 0 from rfl] at hx112_2); (try rw [Addr.add_zero'] at hx112_2); (try rw [show ((0 : Int)).toNat = 0 from rfl] at hx112_3); (try rw [show 0 * 5 = 0 from rfl] at hx112_3); (try rw [Addr.add_zero'] at hx112_3); (try rw [show ((0 : Int)).toNat = 0 from rfl] at hx112_4); (try rw [show 0 * 5 = 0 from rfl] at hx112_4); (try rw [Addr.add_zero'] at hx112_4); replace p112 := eq_true p112; replace q112 := eq_true q112; have p113 : 0 ≤ (1 : Int) := (by omega); have q113 : 1 < (t108.length : Int) := of_decide_eq_true (by first | (with_reducible assumption) | assumption); obtain ⟨ad113, e113, hx113_0, hx113_1, hx113_2, hx113_3, hx113_4⟩ := at_T29 (Kd.R_reads' HO110.out).2.2 1 p113 q113; (try rw [← Nbq6.out] at hx113_1); (try rw [← Nbq16.out] at hx113_1); obtain rfl : ad111 = ad113 := (by injection e113); (try simp only [show (1 : Int).toNat = 1 from rfl, Nat.reduceMul, Nat.reduceEqDiff, Go.Addr.add, ↓reduceIte] at hx113_0); (try simp only [show (1 : Int).toNat = 1 from rfl, Nat.reduceMul, Nat.reduceEqDiff, Go.Addr.add, ↓reduceIte] at hx113_1); (try simp only [show (1 : Int).toNat = 1 from rfl, Nat.reduceMul, Nat.reduceEqDiff, Go.Addr.add, ↓reduceIte] at hx113_2); (try simp only [show (1 : Int).toNat = 1 from rfl, Nat.reduceMul, Nat.reduceEqDiff, Go.Addr.add, ↓reduceIte] at hx113_3); (try simp only [show (1 : Int).toNat = 1 from rfl, Nat.reduceMul, Nat.reduceEqDiff, Go.Addr.add, ↓reduceIte] at hx113_4); have qi113 : (1 < t108.length) = True := eq_true (by omega); (try rw [show ((1 : Int)).toNat = 1 from rfl] at hx113_0); (try rw [show 1 * 5 = 5 from rfl] at hx113_0); (try rw [show ((1 : Int)).toNat = 1 from rfl] at hx113_1); (try rw [show 1 * 5 = 5 from rfl] at hx113_1); (try rw [show ((1 : Int)).toNat = 1 from rfl] at hx113_2); (try rw [show 1 * 5 = 5 from rfl] at hx113_2); (try rw [show ((1 : Int)).toNat = 1 from rfl] at hx113_3); (try rw [show 1 * 5 = 5 from rfl] at hx113_3); (try rw [show ((1 : Int)).toNat = 1 from rfl] at hx113_4); (try rw [show 1 * 5 = 5 from rfl] at hx113_4); replace p113 := eq_true p113; replace q113 := eq_true q113; have p114 : 0 ≤ (1 : Int) := (by omega); have q114 : 1 < (t108.length : Int) := of_decide_eq_true (by first | (with_reducible assumption) | assumption); obtain ⟨ad114, e114, hx114_0, hx114_1, hx114_2, hx114_3, hx114_4⟩ := at_T29 (Kd.R_reads' HO110.out).2.2 1 p114 q114; (try rw [← Nbq6.out] at hx114_1); (try rw [← Nbq16.out] at hx114_1); obtain rfl : ad111 = ad114 := (by injection e114); (try simp only [show (1 : Int).toNat = 1 from rfl, Nat.reduceMul, Nat.reduceEqDiff, Go.Addr.add, ↓reduceIte] at hx114_0); (try simp only [show (1 : Int).toNat = 1 from rfl, Nat.reduceMul, Nat.reduceEqDiff, Go.Addr.add, ↓reduceIte] at hx114_1); (try simp only [show (1 : Int).toNat = 1 from rfl, Nat.reduceMul, Nat.reduceEqDiff, Go.Addr.add, ↓reduceIte] at hx114_2); (try simp only [show (1 : Int).toNat = 1 from rfl, Nat.reduceMul, Nat.reduceEqDiff, Go.Addr.add, ↓reduceIte] at hx114_3); (try simp only [show (1 : Int).toNat = 1 from rfl, Nat.reduceMul, Nat.reduceEqDiff, Go.Addr.add, ↓reduceIte] at hx114_4); have qi114 : (1 < t108.length) = True := eq_true (by omega); (try rw [show ((1 : Int)).toNat = 1 from rfl] at hx114_0); (try rw [show 1 * 5 = 5 from rfl] at hx114_0); (try rw [show ((1 : Int)).toNat = 1 from rfl] at hx114_1); (try rw [show 1 * 5 = 5 from rfl] at hx114_1); (try rw [show ((1 : Int)).toNat = 1 from rfl] at hx114_2); (try rw [show 1 * 5 = 5 from rfl] at hx114_2); (try rw [show ((1 : Int)).toNat = 1 from rfl] at hx114_3); (try rw [show 1 * 5 = 5 from rfl] at hx114_3); (try rw [show ((1 : Int)).toNat = 1 from rfl] at hx114_4); (try rw [show 1 * 5 = 5 from rfl] at hx114_4); replace p114 := eq_true p114; replace q114 := eq_true q114) | (go_at_call 18; (with_reducible refine (watch_At.calls _ _ y105 4 t115 _ ?side1 ?side2 A18.out).mono ?_); (case side1 => repeat (first | exact (Kd.R_reads' HO107.out).2.2 | (with_reducible refine Kd.C_alloc ?_ _) | (with_reducible refine Kd.C_drewN ?_ _) | (with_reducible refine Kd.C_drew ?_))); (case side2 => exact (Kd.R_reads' HO107.out).2.1); rintro e w41 ⟨v116, rfl, ho0, hb⟩; have n0_ := Aside0.mk (Kd.R_below (by (with_reducible repeat (first | apply Kd.R_alloc | apply Kd.R_drewN | apply Kd.R_drew)); exact HO107.out) hb); have n1_ := Aside0.mk (Kd.R_below (by (with_reducible repeat (first | apply Kd.R_alloc | apply Kd.R_drewN | apply Kd.R_drew)); exact HO110.out) hb); have n2_ := Aside0.mk (Kd.R_lower ho0 (below_size (by repeat (first | (with_reducible first | exact HB.out | apply below_alloc | apply pw_below_drewN | apply below_drew1) | exact HB.out)))); have n3_ := Aside0.mk (below_step (by repeat (first | (with_reducible first | exact HB.out | apply below_alloc | apply pw_below_drewN | apply below_drew1) | exact HB.out)) hb); clear HO107; clear HO110; clear HB; have HO107 := n0_; have HO110 := n1_; have HO117 := n2_; have HB := n3_; clear n0_ n1_ n2_ n3_; (try clear hb); (try clear hb2); (try clear hk); (try clear hi); (try clear ho0); obtain ⟨Ao42, co42, eo42⟩ := Kd.R_slice HO117.out; subst eo42) | (go_at_call 7; (with_reducible refine (watch_Rows.calls _ _ t108 t118 _ ?side1 ?side2 A20.out).mono ?_); (case side1 => repeat (first | exact (Kd.R_reads' HO110.out).2.2 | (with_reducible refine Kd.C_alloc ?_ _) | (with_reducible refine Kd.C_drewN ?_ _) | (with_reducible refine Kd.C_drew ?_))); (case side2 => exact (Kd.R_reads' HO110.out).2.1); rintro e w43 ⟨v119, rfl, ho0, hb⟩; have n0_ := Aside0.mk (Kd.R_elder' (by (with_reducible repeat (first | apply Kd.R_alloc | apply Kd.R_drewN | apply Kd.R_drew)); exact HO107.out) (Kd.R_base ho0) hb); have n1_ := Aside0.mk (Kd.R_below (by (with_reducible repeat (first | apply Kd.R_alloc | apply Kd.R_drewN | apply Kd.R_drew)); exact HO110.out) hb); have n2_ := Aside0.mk (Kd.R_below (by (with_reducible repeat (first | apply Kd.R_alloc | apply Kd.R_drewN | apply Kd.R_drew)); exact HO117.out) hb); have n3_ := Aside0.mk (Kd.R_lower (Kd.R_new' ho0 (Kd.R_lt (by (with_reducible repeat (first | apply Kd.R_alloc | apply Kd.R_drewN | apply Kd.R_drew)); exact HO107.out))) (below_size (by repeat (first | (with_reducible first | exact HB.out | apply below_alloc | apply pw_below_drewN | apply below_drew1) | exact HB.out)))); have n4_ := Aside0.mk (below_step (by repeat (first | (with_reducible first | exact HB.out | apply below_alloc | apply pw_below_drewN | apply below_drew1) | exact HB.out)) hb); clear HO107; clear HO110; clear HO117; clear HB; have HO107 := n0_; have HO110 := n1_; have HO117 := n2_; have HO120 := n3_; have HB := n4_; clear n0_ n1_ n2_ n3_ n4_; (try clear hb); (try clear hb2); (try clear hk); (try clear hi); (try clear ho0); obtain ⟨Ao44, co44, eo44⟩ := Kd.R_slice HO120.out; subst eo44))
                    go_ret
                    exact ⟨by first | rfl | (simp [errW_none, errW_some] <;> rfl) | (simp [*, errW_none, errW_some] <;> rfl), by repeat (first | (with_reducible first | exact HB.out | apply below_alloc | apply pw_below_drewN | apply below_drew1) | exact HB.out)⟩
                · rw [if_neg c19] at H
                  have c19b0 : ((t115.length : Int) == 1) = false := beq_eq_false_iff_ne.mpr c19
                  have c19b1 : ((t115.length : Int) != 1) = true := bne_iff_ne.mpr c19
                  obtain rfl := Option.some.inj H
                  go_enter Try.func6, Try.ntmps6
                  go_wp2_with (first | ((with_reducible refine gate_callee (f := 20) rfl ?_); refine goesL_ (some 3) rfl rfl Try.func20 (by kernel_rfl) rfl #[.string (⟨#[117, 115, 101, 114, 58, 97, 110, 110]⟩ : ByteArray)] rfl (by (try simp only [List.map_toArray, List.map_cons, List.map_nil]); first | done | rfl | (simp only [List.length_drop, List.length_take]; rfl)) ?_; (with_reducible refine (porterlaw22_viewer.calls (⟨#[117, 115, 101, 114, 58, 97, 110, 110]⟩ : ByteArray) t102 t103 t104 _ A1.out).mono ?_); rintro e w45 ⟨rfl, hb⟩; refine ⟨_, rfl, ?_⟩; have n0_ := Aside0.mk (below_step (by repeat (first | (with_reducible first | exact HB.out | apply below_alloc | apply pw_below_drewN | apply below_drew1) | exact HB.out)) hb); clear HB; have HB := n0_; clear n0_; (try clear hb); (try clear hb2); (try clear hk); (try clear hi)) | ((with_reducible refine gate_dst (N := 5) rfl ?_); (try (refine gate_guard (by rfl) ?_; dsimp only)); refine Kd.R_lit k51 _ 51 ?hg (N := 5) ?hd (xs := ([(⟨(⟨t102, t103, t104⟩ : S25), 3, 5⟩ : S51)] : List (S51))) (inner := [.string t102, .string t103, .string t104, .int .i64 3, .int .i64 5]) (ok := fun _ => True) (okp := fun _ => True) ?hr ?hp (fun _ hk => hk) trivial (Below.refl _ _) (Nat.le_refl _) (by simp) ?_; (case hd => rfl); (case hg => rfl); (case hr => first | (go_simp; done) | (go_simp; rfl)); (case hp => exact (Reps.c5 (show Kd.M k51 _ _ _ (⟨(⟨t102, t103, t104⟩ : S25), 3, 5⟩ : S51) [.string t102, .string t103, .string t104, .int .i64 3, .int .i64 5] from (k51_mkM _ _ _ (⟨(⟨t102, t103, t104⟩ : S25), 3, 5⟩ : S51) )) (Reps.none _ _))); intro v106 w46 ho47 hb hg_ hnew_; clear hg_ hnew_; (first | rw [← Ny105.out] at ho47 | (simp only [Int.reduceToNat] at ho47; rw [← Ny105.out] at ho47)); have n0_ := Aside0.mk (Kd.R_lower ho47 (below_size (by repeat (first | (with_reducible first | exact HB.out | apply below_alloc | apply pw_below_drewN | apply below_drew1) | exact HB.out)))); have n1_ := Aside0.mk (below_step (by repeat (first | (with_reducible first | exact HB.out | apply below_alloc | apply pw_below_drewN | apply below_drew1) | exact HB.out)) hb); clear HB; have HO107 := n0_; have HB := n1_; clear n0_ n1_; clear hb ho47; obtain ⟨Ao48, co48, eo48⟩ := Kd.R_slice HO107.out; subst eo48) | ((with_reducible refine gate_callee (f := 8) rfl ?_); refine goesL_ (some 7) rfl rfl Try.func8 (by kernel_rfl) rfl #[.slice Ao48 y105.length co48, .int .i64 0, .int .i64 9] rfl (by (try simp only [List.map_toArray, List.map_cons, List.map_nil]); first | done | rfl | (simp only [List.length_drop, List.length_take]; rfl)) ?_; (with_reducible refine (watch_Changes.calls _ _ y105 0 9 t108 _ ?side1 ?side2 A2.out).mono ?_); (case side1 => repeat (first | exact (Kd.R_reads' HO107.out).2.2 | (with_reducible refine Kd.C_alloc ?_ _) | (with_reducible refine Kd.C_drewN ?_ _) | (with_reducible refine Kd.C_drew ?_))); (case side2 => exact (Kd.R_reads' HO107.out).2.1); rintro e w49 ⟨v109, rfl, ho0, hb⟩; refine ⟨_, rfl, ?_⟩; have n0_ := Aside0.mk (Kd.R_below (by (with_reducible repeat (first | apply Kd.R_alloc | apply Kd.R_drewN | apply Kd.R_drew)); exact HO107.out) hb); have n1_ := Aside0.mk (Kd.R_lower ho0 (below_size (by repeat (first | (with_reducible first | exact HB.out | apply below_alloc | apply pw_below_drewN | apply below_drew1) | exact HB.out)))); have n2_ := Aside0.mk (below_step (by repeat (first | (with_reducible first | exact HB.out | apply below_alloc | apply pw_below_drewN | apply below_drew1) | exact HB.out)) hb); clear HO107; clear HB; have HO107 := n0_; have HO110 := n1_; have HB := n2_; clear n0_ n1_ n2_; (try clear hb); (try clear hb2); (try clear hk); (try clear hi); (try clear ho0); obtain ⟨Ao50, co50, eo50⟩ := Kd.R_slice HO110.out; subst eo50; have p111 : 0 ≤ (0 : Int) := (by omega); have q111 : 0 < (t108.length : Int) := of_decide_eq_true (by first | (with_reducible assumption) | assumption); obtain ⟨ad111, e111, hx111_0, hx111_1, hx111_2, hx111_3, hx111_4⟩ := at_T29 (Kd.R_reads' HO110.out).2.2 0 p111 q111; (try rw [← Nbq6.out] at hx111_1); (try rw [← Nbq16.out] at hx111_1); cases e111; have qi111 : (0 < t108.length) = True := eq_true (by omega); (try rw [show ((0 : Int)).toNat = 0 from rfl] at hx111_0); (try rw [show 0 * 5 = 0 from rfl] at hx111_0); (try rw [Addr.add_zero'] at hx111_0); (try rw [show ((0 : Int)).toNat = 0 from rfl] at hx111_1); (try rw [show 0 * 5 = 0 from rfl] at hx111_1); (try rw [Addr.add_zero'] at hx111_1); (try rw [show ((0 : Int)).toNat = 0 from rfl] at hx111_2); (try rw [show 0 * 5 = 0 from rfl] at hx111_2); (try rw [Addr.add_zero'] at hx111_2); (try rw [show ((0 : Int)).toNat = 0 from rfl] at hx111_3); (try rw [show 0 * 5 = 0 from rfl] at hx111_3); (try rw [Addr.add_zero'] at hx111_3); (try rw [show ((0 : Int)).toNat = 0 from rfl] at hx111_4); (try rw [show 0 * 5 = 0 from rfl] at hx111_4); (try rw [Addr.add_zero'] at hx111_4); replace p111 := eq_true p111; replace q111 := eq_true q111; have p112 : 0 ≤ (0 : Int) := (by omega); have q112 : 0 < (t108.length : Int) := of_decide_eq_true (by first | (with_reducible assumption) | assumption); obtain ⟨ad112, e112, hx112_0, hx112_1, hx112_2, hx112_3, hx112_4⟩ := at_T29 (Kd.R_reads' HO110.out).2.2 0 p112 q112; (try rw [← Nbq6.out] at hx112_1); (try rw [← Nbq16.out] at hx112_1); obtain rfl : ad111 = ad112 := (by injection e112); have qi112 : (0 < t108.length) = True := eq_true (by omega); (try rw [show ((0 : Int)).toNat = 0 from rfl] at hx112_0); (try rw [show 0 * 5 = 0 from rfl] at hx112_0); (try rw [Addr.add_zero'] at hx112_0); (try rw [show ((0 : Int)).toNat = 0 from rfl] at hx112_1); (try rw [show 0 * 5 = 0 from rfl] at hx112_1); (try rw [Addr.add_zero'] at hx112_1); (try rw [show ((0 : Int)).toNat = 0 from rfl] at hx112_2); (try rw [show 0 * 5 = 0 from rfl] at hx112_2); (try rw [Addr.add_zero'] at hx112_2); (try rw [show ((0 : Int)).toNat = 0 from rfl] at hx112_3); (try rw [show 0 * 5 = 0 from rfl] at hx112_3); (try rw [Addr.add_zero'] at hx112_3); (try rw [show ((0 : Int)).toNat = 0 from rfl] at hx112_4); (try rw [show 0 * 5 = 0 from rfl] at hx112_4); (try rw [Addr.add_zero'] at hx112_4); replace p112 := eq_true p112; replace q112 := eq_true q112; have p113 : 0 ≤ (1 : Int) := (by omega); have q113 : 1 < (t108.length : Int) := of_decide_eq_true (by first | (with_reducible assumption) | assumption); obtain ⟨ad113, e113, hx113_0, hx113_1, hx113_2, hx113_3, hx113_4⟩ := at_T29 (Kd.R_reads' HO110.out).2.2 1 p113 q113; (try rw [← Nbq6.out] at hx113_1); (try rw [← Nbq16.out] at hx113_1); obtain rfl : ad111 = ad113 := (by injection e113); (try simp only [show (1 : Int).toNat = 1 from rfl, Nat.reduceMul, Nat.reduceEqDiff, Go.Addr.add, ↓reduceIte] at hx113_0); (try simp only [show (1 : Int).toNat = 1 from rfl, Nat.reduceMul, Nat.reduceEqDiff, Go.Addr.add, ↓reduceIte] at hx113_1); (try simp only [show (1 : Int).toNat = 1 from rfl, Nat.reduceMul, Nat.reduceEqDiff, Go.Addr.add, ↓reduceIte] at hx113_2); (try simp only [show (1 : Int).toNat = 1 from rfl, Nat.reduceMul, Nat.reduceEqDiff, Go.Addr.add, ↓reduceIte] at hx113_3); (try simp only [show (1 : Int).toNat = 1 from rfl, Nat.reduceMul, Nat.reduceEqDiff, Go.Addr.add, ↓reduceIte] at hx113_4); have qi113 : (1 < t108.length) = True := eq_true (by omega); (try rw [show ((1 : Int)).toNat = 1 from rfl] at hx113_0); (try rw [show 1 * 5 = 5 from rfl] at hx113_0); (try rw [show ((1 : Int)).toNat = 1 from rfl] at hx113_1); (try rw [show 1 * 5 = 5 from rfl] at hx113_1); (try rw [show ((1 : Int)).toNat = 1 from rfl] at hx113_2); (try rw [show 1 * 5 = 5 from rfl] at hx113_2); (try rw [show ((1 : Int)).toNat = 1 from rfl] at hx113_3); (try rw [show 1 * 5 = 5 from rfl] at hx113_3); (try rw [show ((1 : Int)).toNat = 1 from rfl] at hx113_4); (try rw [show 1 * 5 = 5 from rfl] at hx113_4); replace p113 := eq_true p113; replace q113 := eq_true q113; have p114 : 0 ≤ (1 : Int) := (by omega); have q114 : 1 < (t108.length : Int) := of_decide_eq_true (by first | (with_reducible assumption) | assumption); obtain ⟨ad114, e114, hx114_0, hx114_1, hx114_2, hx114_3, hx114_4⟩ := at_T29 (Kd.R_reads' HO110.out).2.2 1 p114 q114; (try rw [← Nbq6.out] at hx114_1); (try rw [← Nbq16.out] at hx114_1); obtain rfl : ad111 = ad114 := (by injection e114); (try simp only [show (1 : Int).toNat = 1 from rfl, Nat.reduceMul, Nat.reduceEqDiff, Go.Addr.add, ↓reduceIte] at hx114_0); (try simp only [show (1 : Int).toNat = 1 from rfl, Nat.reduceMul, Nat.reduceEqDiff, Go.Addr.add, ↓reduceIte] at hx114_1); (try simp only [show (1 : Int).toNat = 1 from rfl, Nat.reduceMul, Nat.reduceEqDiff, Go.Addr.add, ↓reduceIte] at hx114_2); (try simp only [show (1 : Int).toNat = 1 from rfl, Nat.reduceMul, Nat.reduceEqDiff, Go.Addr.add, ↓reduceIte] at hx114_3); (try simp only [show (1 : Int).toNat = 1 from rfl, Nat.reduceMul, Nat.reduceEqDiff, Go.Addr.add, ↓reduceIte] at hx114_4); have qi114 : (1 < t108.length) = True := eq_true (by omega); (try rw [show ((1 : Int)).toNat = 1 from rfl] at hx114_0); (try rw [show 1 * 5 = 5 from rfl] at hx114_0); (try rw [show ((1 : Int)).toNat = 1 from rfl] at hx114_1); (try rw [show 1 * 5 = 5 from rfl] at hx114_1); (try rw [show ((1 : Int)).toNat = 1 from rfl] at hx114_2); (try rw [show 1 * 5 = 5 from rfl] at hx114_2); (try rw [show ((1 : Int)).toNat = 1 from rfl] at hx114_3); (try rw [show 1 * 5 = 5 from rfl] at hx114_3); (try rw [show ((1 : Int)).toNat = 1 from rfl] at hx114_4); (try rw [show 1 * 5 = 5 from rfl] at hx114_4); replace p114 := eq_true p114; replace q114 := eq_true q114) | (go_at_call 18; (with_reducible refine (watch_At.calls _ _ y105 4 t115 _ ?side1 ?side2 A18.out).mono ?_); (case side1 => repeat (first | exact (Kd.R_reads' HO107.out).2.2 | (with_reducible refine Kd.C_alloc ?_ _) | (with_reducible refine Kd.C_drewN ?_ _) | (with_reducible refine Kd.C_drew ?_))); (case side2 => exact (Kd.R_reads' HO107.out).2.1); rintro e w51 ⟨v116, rfl, ho0, hb⟩; have n0_ := Aside0.mk (Kd.R_below (by (with_reducible repeat (first | apply Kd.R_alloc | apply Kd.R_drewN | apply Kd.R_drew)); exact HO107.out) hb); have n1_ := Aside0.mk (Kd.R_below (by (with_reducible repeat (first | apply Kd.R_alloc | apply Kd.R_drewN | apply Kd.R_drew)); exact HO110.out) hb); have n2_ := Aside0.mk (Kd.R_lower ho0 (below_size (by repeat (first | (with_reducible first | exact HB.out | apply below_alloc | apply pw_below_drewN | apply below_drew1) | exact HB.out)))); have n3_ := Aside0.mk (below_step (by repeat (first | (with_reducible first | exact HB.out | apply below_alloc | apply pw_below_drewN | apply below_drew1) | exact HB.out)) hb); clear HO107; clear HO110; clear HB; have HO107 := n0_; have HO110 := n1_; have HO117 := n2_; have HB := n3_; clear n0_ n1_ n2_ n3_; (try clear hb); (try clear hb2); (try clear hk); (try clear hi); (try clear ho0); obtain ⟨Ao52, co52, eo52⟩ := Kd.R_slice HO117.out; subst eo52))
                  go_ret
                  exact ⟨by first | rfl | (simp [errW_none, errW_some] <;> rfl) | (simp [*, errW_none, errW_some] <;> rfl), by repeat (first | (with_reducible first | exact HB.out | apply below_alloc | apply pw_below_drewN | apply below_drew1) | exact HB.out)⟩
              · replace c17 := Bool.eq_false_iff.mpr c17
                subst c17
                have H1 : (some false) = some r := by rw [if_neg (show ¬ (false = true) by decide)] at H; exact H
                clear H
                have H := H1
                clear H1
                obtain rfl := Option.some.inj H
                go_enter Try.func6, Try.ntmps6
                go_wp2_with (first | ((with_reducible refine gate_callee (f := 20) rfl ?_); refine goesL_ (some 3) rfl rfl Try.func20 (by kernel_rfl) rfl #[.string (⟨#[117, 115, 101, 114, 58, 97, 110, 110]⟩ : ByteArray)] rfl (by (try simp only [List.map_toArray, List.map_cons, List.map_nil]); first | done | rfl | (simp only [List.length_drop, List.length_take]; rfl)) ?_; (with_reducible refine (porterlaw22_viewer.calls (⟨#[117, 115, 101, 114, 58, 97, 110, 110]⟩ : ByteArray) t102 t103 t104 _ A1.out).mono ?_); rintro e w53 ⟨rfl, hb⟩; refine ⟨_, rfl, ?_⟩; have n0_ := Aside0.mk (below_step (by repeat (first | (with_reducible first | exact HB.out | apply below_alloc | apply pw_below_drewN | apply below_drew1) | exact HB.out)) hb); clear HB; have HB := n0_; clear n0_; (try clear hb); (try clear hb2); (try clear hk); (try clear hi)) | ((with_reducible refine gate_dst (N := 5) rfl ?_); (try (refine gate_guard (by rfl) ?_; dsimp only)); refine Kd.R_lit k51 _ 51 ?hg (N := 5) ?hd (xs := ([(⟨(⟨t102, t103, t104⟩ : S25), 3, 5⟩ : S51)] : List (S51))) (inner := [.string t102, .string t103, .string t104, .int .i64 3, .int .i64 5]) (ok := fun _ => True) (okp := fun _ => True) ?hr ?hp (fun _ hk => hk) trivial (Below.refl _ _) (Nat.le_refl _) (by simp) ?_; (case hd => rfl); (case hg => rfl); (case hr => first | (go_simp; done) | (go_simp; rfl)); (case hp => exact (Reps.c5 (show Kd.M k51 _ _ _ (⟨(⟨t102, t103, t104⟩ : S25), 3, 5⟩ : S51) [.string t102, .string t103, .string t104, .int .i64 3, .int .i64 5] from (k51_mkM _ _ _ (⟨(⟨t102, t103, t104⟩ : S25), 3, 5⟩ : S51) )) (Reps.none _ _))); intro v106 w54 ho55 hb hg_ hnew_; clear hg_ hnew_; (first | rw [← Ny105.out] at ho55 | (simp only [Int.reduceToNat] at ho55; rw [← Ny105.out] at ho55)); have n0_ := Aside0.mk (Kd.R_lower ho55 (below_size (by repeat (first | (with_reducible first | exact HB.out | apply below_alloc | apply pw_below_drewN | apply below_drew1) | exact HB.out)))); have n1_ := Aside0.mk (below_step (by repeat (first | (with_reducible first | exact HB.out | apply below_alloc | apply pw_below_drewN | apply below_drew1) | exact HB.out)) hb); clear HB; have HO107 := n0_; have HB := n1_; clear n0_ n1_; clear hb ho55; obtain ⟨Ao56, co56, eo56⟩ := Kd.R_slice HO107.out; subst eo56) | ((with_reducible refine gate_callee (f := 8) rfl ?_); refine goesL_ (some 7) rfl rfl Try.func8 (by kernel_rfl) rfl #[.slice Ao56 y105.length co56, .int .i64 0, .int .i64 9] rfl (by (try simp only [List.map_toArray, List.map_cons, List.map_nil]); first | done | rfl | (simp only [List.length_drop, List.length_take]; rfl)) ?_; (with_reducible refine (watch_Changes.calls _ _ y105 0 9 t108 _ ?side1 ?side2 A2.out).mono ?_); (case side1 => repeat (first | exact (Kd.R_reads' HO107.out).2.2 | (with_reducible refine Kd.C_alloc ?_ _) | (with_reducible refine Kd.C_drewN ?_ _) | (with_reducible refine Kd.C_drew ?_))); (case side2 => exact (Kd.R_reads' HO107.out).2.1); rintro e w57 ⟨v109, rfl, ho0, hb⟩; refine ⟨_, rfl, ?_⟩; have n0_ := Aside0.mk (Kd.R_below (by (with_reducible repeat (first | apply Kd.R_alloc | apply Kd.R_drewN | apply Kd.R_drew)); exact HO107.out) hb); have n1_ := Aside0.mk (Kd.R_lower ho0 (below_size (by repeat (first | (with_reducible first | exact HB.out | apply below_alloc | apply pw_below_drewN | apply below_drew1) | exact HB.out)))); have n2_ := Aside0.mk (below_step (by repeat (first | (with_reducible first | exact HB.out | apply below_alloc | apply pw_below_drewN | apply below_drew1) | exact HB.out)) hb); clear HO107; clear HB; have HO107 := n0_; have HO110 := n1_; have HB := n2_; clear n0_ n1_ n2_; (try clear hb); (try clear hb2); (try clear hk); (try clear hi); (try clear ho0); obtain ⟨Ao58, co58, eo58⟩ := Kd.R_slice HO110.out; subst eo58; have p111 : 0 ≤ (0 : Int) := (by omega); have q111 : 0 < (t108.length : Int) := of_decide_eq_true (by first | (with_reducible assumption) | assumption); obtain ⟨ad111, e111, hx111_0, hx111_1, hx111_2, hx111_3, hx111_4⟩ := at_T29 (Kd.R_reads' HO110.out).2.2 0 p111 q111; (try rw [← Nbq6.out] at hx111_1); (try rw [← Nbq16.out] at hx111_1); cases e111; have qi111 : (0 < t108.length) = True := eq_true (by omega); (try rw [show ((0 : Int)).toNat = 0 from rfl] at hx111_0); (try rw [show 0 * 5 = 0 from rfl] at hx111_0); (try rw [Addr.add_zero'] at hx111_0); (try rw [show ((0 : Int)).toNat = 0 from rfl] at hx111_1); (try rw [show 0 * 5 = 0 from rfl] at hx111_1); (try rw [Addr.add_zero'] at hx111_1); (try rw [show ((0 : Int)).toNat = 0 from rfl] at hx111_2); (try rw [show 0 * 5 = 0 from rfl] at hx111_2); (try rw [Addr.add_zero'] at hx111_2); (try rw [show ((0 : Int)).toNat = 0 from rfl] at hx111_3); (try rw [show 0 * 5 = 0 from rfl] at hx111_3); (try rw [Addr.add_zero'] at hx111_3); (try rw [show ((0 : Int)).toNat = 0 from rfl] at hx111_4); (try rw [show 0 * 5 = 0 from rfl] at hx111_4); (try rw [Addr.add_zero'] at hx111_4); replace p111 := eq_true p111; replace q111 := eq_true q111; have p112 : 0 ≤ (0 : Int) := (by omega); have q112 : 0 < (t108.length : Int) := of_decide_eq_true (by first | (with_reducible assumption) | assumption); obtain ⟨ad112, e112, hx112_0, hx112_1, hx112_2, hx112_3, hx112_4⟩ := at_T29 (Kd.R_reads' HO110.out).2.2 0 p112 q112; (try rw [← Nbq6.out] at hx112_1); (try rw [← Nbq16.out] at hx112_1); obtain rfl : ad111 = ad112 := (by injection e112); have qi112 : (0 < t108.length) = True := eq_true (by omega); (try rw [show ((0 : Int)).toNat = 0 from rfl] at hx112_0); (try rw [show 0 * 5 = 0 from rfl] at hx112_0); (try rw [Addr.add_zero'] at hx112_0); (try rw [show ((0 : Int)).toNat = 0 from rfl] at hx112_1); (try rw [show 0 * 5 = 0 from rfl] at hx112_1); (try rw [Addr.add_zero'] at hx112_1); (try rw [show ((0 : Int)).toNat = 0 from rfl] at hx112_2); (try rw [show 0 * 5 = 0 from rfl] at hx112_2); (try rw [Addr.add_zero'] at hx112_2); (try rw [show ((0 : Int)).toNat = 0 from rfl] at hx112_3); (try rw [show 0 * 5 = 0 from rfl] at hx112_3); (try rw [Addr.add_zero'] at hx112_3); (try rw [show ((0 : Int)).toNat = 0 from rfl] at hx112_4); (try rw [show 0 * 5 = 0 from rfl] at hx112_4); (try rw [Addr.add_zero'] at hx112_4); replace p112 := eq_true p112; replace q112 := eq_true q112; have p113 : 0 ≤ (1 : Int) := (by omega); have q113 : 1 < (t108.length : Int) := of_decide_eq_true (by first | (with_reducible assumption) | assumption); obtain ⟨ad113, e113, hx113_0, hx113_1, hx113_2, hx113_3, hx113_4⟩ := at_T29 (Kd.R_reads' HO110.out).2.2 1 p113 q113; (try rw [← Nbq6.out] at hx113_1); (try rw [← Nbq16.out] at hx113_1); obtain rfl : ad111 = ad113 := (by injection e113); (try simp only [show (1 : Int).toNat = 1 from rfl, Nat.reduceMul, Nat.reduceEqDiff, Go.Addr.add, ↓reduceIte] at hx113_0); (try simp only [show (1 : Int).toNat = 1 from rfl, Nat.reduceMul, Nat.reduceEqDiff, Go.Addr.add, ↓reduceIte] at hx113_1); (try simp only [show (1 : Int).toNat = 1 from rfl, Nat.reduceMul, Nat.reduceEqDiff, Go.Addr.add, ↓reduceIte] at hx113_2); (try simp only [show (1 : Int).toNat = 1 from rfl, Nat.reduceMul, Nat.reduceEqDiff, Go.Addr.add, ↓reduceIte] at hx113_3); (try simp only [show (1 : Int).toNat = 1 from rfl, Nat.reduceMul, Nat.reduceEqDiff, Go.Addr.add, ↓reduceIte] at hx113_4); have qi113 : (1 < t108.length) = True := eq_true (by omega); (try rw [show ((1 : Int)).toNat = 1 from rfl] at hx113_0); (try rw [show 1 * 5 = 5 from rfl] at hx113_0); (try rw [show ((1 : Int)).toNat = 1 from rfl] at hx113_1); (try rw [show 1 * 5 = 5 from rfl] at hx113_1); (try rw [show ((1 : Int)).toNat = 1 from rfl] at hx113_2); (try rw [show 1 * 5 = 5 from rfl] at hx113_2); (try rw [show ((1 : Int)).toNat = 1 from rfl] at hx113_3); (try rw [show 1 * 5 = 5 from rfl] at hx113_3); (try rw [show ((1 : Int)).toNat = 1 from rfl] at hx113_4); (try rw [show 1 * 5 = 5 from rfl] at hx113_4); replace p113 := eq_true p113; replace q113 := eq_true q113; have p114 : 0 ≤ (1 : Int) := (by omega); have q114 : 1 < (t108.length : Int) := of_decide_eq_true (by first | (with_reducible assumption) | assumption); obtain ⟨ad114, e114, hx114_0, hx114_1, hx114_2, hx114_3, hx114_4⟩ := at_T29 (Kd.R_reads' HO110.out).2.2 1 p114 q114; (try rw [← Nbq6.out] at hx114_1); (try rw [← Nbq16.out] at hx114_1); obtain rfl : ad111 = ad114 := (by injection e114); (try simp only [show (1 : Int).toNat = 1 from rfl, Nat.reduceMul, Nat.reduceEqDiff, Go.Addr.add, ↓reduceIte] at hx114_0); (try simp only [show (1 : Int).toNat = 1 from rfl, Nat.reduceMul, Nat.reduceEqDiff, Go.Addr.add, ↓reduceIte] at hx114_1); (try simp only [show (1 : Int).toNat = 1 from rfl, Nat.reduceMul, Nat.reduceEqDiff, Go.Addr.add, ↓reduceIte] at hx114_2); (try simp only [show (1 : Int).toNat = 1 from rfl, Nat.reduceMul, Nat.reduceEqDiff, Go.Addr.add, ↓reduceIte] at hx114_3); (try simp only [show (1 : Int).toNat = 1 from rfl, Nat.reduceMul, Nat.reduceEqDiff, Go.Addr.add, ↓reduceIte] at hx114_4); have qi114 : (1 < t108.length) = True := eq_true (by omega); (try rw [show ((1 : Int)).toNat = 1 from rfl] at hx114_0); (try rw [show 1 * 5 = 5 from rfl] at hx114_0); (try rw [show ((1 : Int)).toNat = 1 from rfl] at hx114_1); (try rw [show 1 * 5 = 5 from rfl] at hx114_1); (try rw [show ((1 : Int)).toNat = 1 from rfl] at hx114_2); (try rw [show 1 * 5 = 5 from rfl] at hx114_2); (try rw [show ((1 : Int)).toNat = 1 from rfl] at hx114_3); (try rw [show 1 * 5 = 5 from rfl] at hx114_3); (try rw [show ((1 : Int)).toNat = 1 from rfl] at hx114_4); (try rw [show 1 * 5 = 5 from rfl] at hx114_4); replace p114 := eq_true p114; replace q114 := eq_true q114))
                go_ret
                exact ⟨by first | rfl | (simp [errW_none, errW_some] <;> rfl) | (simp [*, errW_none, errW_some] <;> rfl), by repeat (first | (with_reducible first | exact HB.out | apply below_alloc | apply pw_below_drewN | apply below_drew1) | exact HB.out)⟩
            · rw [if_neg c15] at H
              have c15b0 : (((rd_T29 t108 1).f0) == 5) = false := beq_eq_false_iff_ne.mpr c15
              have c15b1 : (((rd_T29 t108 1).f0) != 5) = true := bne_iff_ne.mpr c15
              obtain rfl := Option.some.inj H
              go_enter Try.func6, Try.ntmps6
              go_wp2_with (first | ((with_reducible refine gate_callee (f := 20) rfl ?_); refine goesL_ (some 3) rfl rfl Try.func20 (by kernel_rfl) rfl #[.string (⟨#[117, 115, 101, 114, 58, 97, 110, 110]⟩ : ByteArray)] rfl (by (try simp only [List.map_toArray, List.map_cons, List.map_nil]); first | done | rfl | (simp only [List.length_drop, List.length_take]; rfl)) ?_; (with_reducible refine (porterlaw22_viewer.calls (⟨#[117, 115, 101, 114, 58, 97, 110, 110]⟩ : ByteArray) t102 t103 t104 _ A1.out).mono ?_); rintro e w59 ⟨rfl, hb⟩; refine ⟨_, rfl, ?_⟩; have n0_ := Aside0.mk (below_step (by repeat (first | (with_reducible first | exact HB.out | apply below_alloc | apply pw_below_drewN | apply below_drew1) | exact HB.out)) hb); clear HB; have HB := n0_; clear n0_; (try clear hb); (try clear hb2); (try clear hk); (try clear hi)) | ((with_reducible refine gate_dst (N := 5) rfl ?_); (try (refine gate_guard (by rfl) ?_; dsimp only)); refine Kd.R_lit k51 _ 51 ?hg (N := 5) ?hd (xs := ([(⟨(⟨t102, t103, t104⟩ : S25), 3, 5⟩ : S51)] : List (S51))) (inner := [.string t102, .string t103, .string t104, .int .i64 3, .int .i64 5]) (ok := fun _ => True) (okp := fun _ => True) ?hr ?hp (fun _ hk => hk) trivial (Below.refl _ _) (Nat.le_refl _) (by simp) ?_; (case hd => rfl); (case hg => rfl); (case hr => first | (go_simp; done) | (go_simp; rfl)); (case hp => exact (Reps.c5 (show Kd.M k51 _ _ _ (⟨(⟨t102, t103, t104⟩ : S25), 3, 5⟩ : S51) [.string t102, .string t103, .string t104, .int .i64 3, .int .i64 5] from (k51_mkM _ _ _ (⟨(⟨t102, t103, t104⟩ : S25), 3, 5⟩ : S51) )) (Reps.none _ _))); intro v106 w60 ho61 hb hg_ hnew_; clear hg_ hnew_; (first | rw [← Ny105.out] at ho61 | (simp only [Int.reduceToNat] at ho61; rw [← Ny105.out] at ho61)); have n0_ := Aside0.mk (Kd.R_lower ho61 (below_size (by repeat (first | (with_reducible first | exact HB.out | apply below_alloc | apply pw_below_drewN | apply below_drew1) | exact HB.out)))); have n1_ := Aside0.mk (below_step (by repeat (first | (with_reducible first | exact HB.out | apply below_alloc | apply pw_below_drewN | apply below_drew1) | exact HB.out)) hb); clear HB; have HO107 := n0_; have HB := n1_; clear n0_ n1_; clear hb ho61; obtain ⟨Ao62, co62, eo62⟩ := Kd.R_slice HO107.out; subst eo62) | ((with_reducible refine gate_callee (f := 8) rfl ?_); refine goesL_ (some 7) rfl rfl Try.func8 (by kernel_rfl) rfl #[.slice Ao62 y105.length co62, .int .i64 0, .int .i64 9] rfl (by (try simp only [List.map_toArray, List.map_cons, List.map_nil]); first | done | rfl | (simp only [List.length_drop, List.length_take]; rfl)) ?_; (with_reducible refine (watch_Changes.calls _ _ y105 0 9 t108 _ ?side1 ?side2 A2.out).mono ?_); (case side1 => repeat (first | exact (Kd.R_reads' HO107.out).2.2 | (with_reducible refine Kd.C_alloc ?_ _) | (with_reducible refine Kd.C_drewN ?_ _) | (with_reducible refine Kd.C_drew ?_))); (case side2 => exact (Kd.R_reads' HO107.out).2.1); rintro e w63 ⟨v109, rfl, ho0, hb⟩; refine ⟨_, rfl, ?_⟩; have n0_ := Aside0.mk (Kd.R_below (by (with_reducible repeat (first | apply Kd.R_alloc | apply Kd.R_drewN | apply Kd.R_drew)); exact HO107.out) hb); have n1_ := Aside0.mk (Kd.R_lower ho0 (below_size (by repeat (first | (with_reducible first | exact HB.out | apply below_alloc | apply pw_below_drewN | apply below_drew1) | exact HB.out)))); have n2_ := Aside0.mk (below_step (by repeat (first | (with_reducible first | exact HB.out | apply below_alloc | apply pw_below_drewN | apply below_drew1) | exact HB.out)) hb); clear HO107; clear HB; have HO107 := n0_; have HO110 := n1_; have HB := n2_; clear n0_ n1_ n2_; (try clear hb); (try clear hb2); (try clear hk); (try clear hi); (try clear ho0); obtain ⟨Ao64, co64, eo64⟩ := Kd.R_slice HO110.out; subst eo64; have p111 : 0 ≤ (0 : Int) := (by omega); have q111 : 0 < (t108.length : Int) := of_decide_eq_true (by first | (with_reducible assumption) | assumption); obtain ⟨ad111, e111, hx111_0, hx111_1, hx111_2, hx111_3, hx111_4⟩ := at_T29 (Kd.R_reads' HO110.out).2.2 0 p111 q111; (try rw [← Nbq6.out] at hx111_1); cases e111; have qi111 : (0 < t108.length) = True := eq_true (by omega); (try rw [show ((0 : Int)).toNat = 0 from rfl] at hx111_0); (try rw [show 0 * 5 = 0 from rfl] at hx111_0); (try rw [Addr.add_zero'] at hx111_0); (try rw [show ((0 : Int)).toNat = 0 from rfl] at hx111_1); (try rw [show 0 * 5 = 0 from rfl] at hx111_1); (try rw [Addr.add_zero'] at hx111_1); (try rw [show ((0 : Int)).toNat = 0 from rfl] at hx111_2); (try rw [show 0 * 5 = 0 from rfl] at hx111_2); (try rw [Addr.add_zero'] at hx111_2); (try rw [show ((0 : Int)).toNat = 0 from rfl] at hx111_3); (try rw [show 0 * 5 = 0 from rfl] at hx111_3); (try rw [Addr.add_zero'] at hx111_3); (try rw [show ((0 : Int)).toNat = 0 from rfl] at hx111_4); (try rw [show 0 * 5 = 0 from rfl] at hx111_4); (try rw [Addr.add_zero'] at hx111_4); replace p111 := eq_true p111; replace q111 := eq_true q111; have p112 : 0 ≤ (0 : Int) := (by omega); have q112 : 0 < (t108.length : Int) := of_decide_eq_true (by first | (with_reducible assumption) | assumption); obtain ⟨ad112, e112, hx112_0, hx112_1, hx112_2, hx112_3, hx112_4⟩ := at_T29 (Kd.R_reads' HO110.out).2.2 0 p112 q112; (try rw [← Nbq6.out] at hx112_1); obtain rfl : ad111 = ad112 := (by injection e112); have qi112 : (0 < t108.length) = True := eq_true (by omega); (try rw [show ((0 : Int)).toNat = 0 from rfl] at hx112_0); (try rw [show 0 * 5 = 0 from rfl] at hx112_0); (try rw [Addr.add_zero'] at hx112_0); (try rw [show ((0 : Int)).toNat = 0 from rfl] at hx112_1); (try rw [show 0 * 5 = 0 from rfl] at hx112_1); (try rw [Addr.add_zero'] at hx112_1); (try rw [show ((0 : Int)).toNat = 0 from rfl] at hx112_2); (try rw [show 0 * 5 = 0 from rfl] at hx112_2); (try rw [Addr.add_zero'] at hx112_2); (try rw [show ((0 : Int)).toNat = 0 from rfl] at hx112_3); (try rw [show 0 * 5 = 0 from rfl] at hx112_3); (try rw [Addr.add_zero'] at hx112_3); (try rw [show ((0 : Int)).toNat = 0 from rfl] at hx112_4); (try rw [show 0 * 5 = 0 from rfl] at hx112_4); (try rw [Addr.add_zero'] at hx112_4); replace p112 := eq_true p112; replace q112 := eq_true q112; have p113 : 0 ≤ (1 : Int) := (by omega); have q113 : 1 < (t108.length : Int) := of_decide_eq_true (by first | (with_reducible assumption) | assumption); obtain ⟨ad113, e113, hx113_0, hx113_1, hx113_2, hx113_3, hx113_4⟩ := at_T29 (Kd.R_reads' HO110.out).2.2 1 p113 q113; (try rw [← Nbq6.out] at hx113_1); obtain rfl : ad111 = ad113 := (by injection e113); (try simp only [show (1 : Int).toNat = 1 from rfl, Nat.reduceMul, Nat.reduceEqDiff, Go.Addr.add, ↓reduceIte] at hx113_0); (try simp only [show (1 : Int).toNat = 1 from rfl, Nat.reduceMul, Nat.reduceEqDiff, Go.Addr.add, ↓reduceIte] at hx113_1); (try simp only [show (1 : Int).toNat = 1 from rfl, Nat.reduceMul, Nat.reduceEqDiff, Go.Addr.add, ↓reduceIte] at hx113_2); (try simp only [show (1 : Int).toNat = 1 from rfl, Nat.reduceMul, Nat.reduceEqDiff, Go.Addr.add, ↓reduceIte] at hx113_3); (try simp only [show (1 : Int).toNat = 1 from rfl, Nat.reduceMul, Nat.reduceEqDiff, Go.Addr.add, ↓reduceIte] at hx113_4); have qi113 : (1 < t108.length) = True := eq_true (by omega); (try rw [show ((1 : Int)).toNat = 1 from rfl] at hx113_0); (try rw [show 1 * 5 = 5 from rfl] at hx113_0); (try rw [show ((1 : Int)).toNat = 1 from rfl] at hx113_1); (try rw [show 1 * 5 = 5 from rfl] at hx113_1); (try rw [show ((1 : Int)).toNat = 1 from rfl] at hx113_2); (try rw [show 1 * 5 = 5 from rfl] at hx113_2); (try rw [show ((1 : Int)).toNat = 1 from rfl] at hx113_3); (try rw [show 1 * 5 = 5 from rfl] at hx113_3); (try rw [show ((1 : Int)).toNat = 1 from rfl] at hx113_4); (try rw [show 1 * 5 = 5 from rfl] at hx113_4); replace p113 := eq_true p113; replace q113 := eq_true q113))
              go_ret
              exact ⟨by first | rfl | (simp [errW_none, errW_some] <;> rfl) | (simp [*, errW_none, errW_some] <;> rfl), by repeat (first | (with_reducible first | exact HB.out | apply below_alloc | apply pw_below_drewN | apply below_drew1) | exact HB.out)⟩
          · rw [if_neg c14] at H
            exact absurd H (by simp)
      · rw [if_neg c5] at H
        have c5b0 : (((rd_T29 t108 0).f0) == 3) = false := beq_eq_false_iff_ne.mpr c5
        have c5b1 : (((rd_T29 t108 0).f0) != 3) = true := bne_iff_ne.mpr c5
        obtain rfl := Option.some.inj H
        go_enter Try.func6, Try.ntmps6
        go_wp2_with (first | ((with_reducible refine gate_callee (f := 20) rfl ?_); refine goesL_ (some 3) rfl rfl Try.func20 (by kernel_rfl) rfl #[.string (⟨#[117, 115, 101, 114, 58, 97, 110, 110]⟩ : ByteArray)] rfl (by (try simp only [List.map_toArray, List.map_cons, List.map_nil]); first | done | rfl | (simp only [List.length_drop, List.length_take]; rfl)) ?_; (with_reducible refine (porterlaw22_viewer.calls (⟨#[117, 115, 101, 114, 58, 97, 110, 110]⟩ : ByteArray) t102 t103 t104 _ A1.out).mono ?_); rintro e w65 ⟨rfl, hb⟩; refine ⟨_, rfl, ?_⟩; have n0_ := Aside0.mk (below_step (by repeat (first | (with_reducible first | exact HB.out | apply below_alloc | apply pw_below_drewN | apply below_drew1) | exact HB.out)) hb); clear HB; have HB := n0_; clear n0_; (try clear hb); (try clear hb2); (try clear hk); (try clear hi)) | ((with_reducible refine gate_dst (N := 5) rfl ?_); (try (refine gate_guard (by rfl) ?_; dsimp only)); refine Kd.R_lit k51 _ 51 ?hg (N := 5) ?hd (xs := ([(⟨(⟨t102, t103, t104⟩ : S25), 3, 5⟩ : S51)] : List (S51))) (inner := [.string t102, .string t103, .string t104, .int .i64 3, .int .i64 5]) (ok := fun _ => True) (okp := fun _ => True) ?hr ?hp (fun _ hk => hk) trivial (Below.refl _ _) (Nat.le_refl _) (by simp) ?_; (case hd => rfl); (case hg => rfl); (case hr => first | (go_simp; done) | (go_simp; rfl)); (case hp => exact (Reps.c5 (show Kd.M k51 _ _ _ (⟨(⟨t102, t103, t104⟩ : S25), 3, 5⟩ : S51) [.string t102, .string t103, .string t104, .int .i64 3, .int .i64 5] from (k51_mkM _ _ _ (⟨(⟨t102, t103, t104⟩ : S25), 3, 5⟩ : S51) )) (Reps.none _ _))); intro v106 w66 ho67 hb hg_ hnew_; clear hg_ hnew_; (first | rw [← Ny105.out] at ho67 | (simp only [Int.reduceToNat] at ho67; rw [← Ny105.out] at ho67)); have n0_ := Aside0.mk (Kd.R_lower ho67 (below_size (by repeat (first | (with_reducible first | exact HB.out | apply below_alloc | apply pw_below_drewN | apply below_drew1) | exact HB.out)))); have n1_ := Aside0.mk (below_step (by repeat (first | (with_reducible first | exact HB.out | apply below_alloc | apply pw_below_drewN | apply below_drew1) | exact HB.out)) hb); clear HB; have HO107 := n0_; have HB := n1_; clear n0_ n1_; clear hb ho67; obtain ⟨Ao68, co68, eo68⟩ := Kd.R_slice HO107.out; subst eo68) | ((with_reducible refine gate_callee (f := 8) rfl ?_); refine goesL_ (some 7) rfl rfl Try.func8 (by kernel_rfl) rfl #[.slice Ao68 y105.length co68, .int .i64 0, .int .i64 9] rfl (by (try simp only [List.map_toArray, List.map_cons, List.map_nil]); first | done | rfl | (simp only [List.length_drop, List.length_take]; rfl)) ?_; (with_reducible refine (watch_Changes.calls _ _ y105 0 9 t108 _ ?side1 ?side2 A2.out).mono ?_); (case side1 => repeat (first | exact (Kd.R_reads' HO107.out).2.2 | (with_reducible refine Kd.C_alloc ?_ _) | (with_reducible refine Kd.C_drewN ?_ _) | (with_reducible refine Kd.C_drew ?_))); (case side2 => exact (Kd.R_reads' HO107.out).2.1); rintro e w69 ⟨v109, rfl, ho0, hb⟩; refine ⟨_, rfl, ?_⟩; have n0_ := Aside0.mk (Kd.R_below (by (with_reducible repeat (first | apply Kd.R_alloc | apply Kd.R_drewN | apply Kd.R_drew)); exact HO107.out) hb); have n1_ := Aside0.mk (Kd.R_lower ho0 (below_size (by repeat (first | (with_reducible first | exact HB.out | apply below_alloc | apply pw_below_drewN | apply below_drew1) | exact HB.out)))); have n2_ := Aside0.mk (below_step (by repeat (first | (with_reducible first | exact HB.out | apply below_alloc | apply pw_below_drewN | apply below_drew1) | exact HB.out)) hb); clear HO107; clear HB; have HO107 := n0_; have HO110 := n1_; have HB := n2_; clear n0_ n1_ n2_; (try clear hb); (try clear hb2); (try clear hk); (try clear hi); (try clear ho0); obtain ⟨Ao70, co70, eo70⟩ := Kd.R_slice HO110.out; subst eo70; have p111 : 0 ≤ (0 : Int) := (by omega); have q111 : 0 < (t108.length : Int) := of_decide_eq_true (by first | (with_reducible assumption) | assumption); obtain ⟨ad111, e111, hx111_0, hx111_1, hx111_2, hx111_3, hx111_4⟩ := at_T29 (Kd.R_reads' HO110.out).2.2 0 p111 q111; cases e111; have qi111 : (0 < t108.length) = True := eq_true (by omega); (try rw [show ((0 : Int)).toNat = 0 from rfl] at hx111_0); (try rw [show 0 * 5 = 0 from rfl] at hx111_0); (try rw [Addr.add_zero'] at hx111_0); (try rw [show ((0 : Int)).toNat = 0 from rfl] at hx111_1); (try rw [show 0 * 5 = 0 from rfl] at hx111_1); (try rw [Addr.add_zero'] at hx111_1); (try rw [show ((0 : Int)).toNat = 0 from rfl] at hx111_2); (try rw [show 0 * 5 = 0 from rfl] at hx111_2); (try rw [Addr.add_zero'] at hx111_2); (try rw [show ((0 : Int)).toNat = 0 from rfl] at hx111_3); (try rw [show 0 * 5 = 0 from rfl] at hx111_3); (try rw [Addr.add_zero'] at hx111_3); (try rw [show ((0 : Int)).toNat = 0 from rfl] at hx111_4); (try rw [show 0 * 5 = 0 from rfl] at hx111_4); (try rw [Addr.add_zero'] at hx111_4); replace p111 := eq_true p111; replace q111 := eq_true q111))
        go_ret
        exact ⟨by first | rfl | (simp [errW_none, errW_some] <;> rfl) | (simp [*, errW_none, errW_some] <;> rfl), by repeat (first | (with_reducible first | exact HB.out | apply below_alloc | apply pw_below_drewN | apply below_drew1) | exact HB.out)⟩
    · rw [if_neg c4] at H
      exact absurd H (by simp)
  · rw [if_neg c3] at H
    have c3b0 : ((t108.length : Int) == 2) = false := beq_eq_false_iff_ne.mpr c3
    have c3b1 : ((t108.length : Int) != 2) = true := bne_iff_ne.mpr c3
    obtain rfl := Option.some.inj H
    go_enter Try.func6, Try.ntmps6
    go_wp2_with (first | ((with_reducible refine gate_callee (f := 20) rfl ?_); refine goesL_ (some 3) rfl rfl Try.func20 (by kernel_rfl) rfl #[.string (⟨#[117, 115, 101, 114, 58, 97, 110, 110]⟩ : ByteArray)] rfl (by (try simp only [List.map_toArray, List.map_cons, List.map_nil]); first | done | rfl | (simp only [List.length_drop, List.length_take]; rfl)) ?_; (with_reducible refine (porterlaw22_viewer.calls (⟨#[117, 115, 101, 114, 58, 97, 110, 110]⟩ : ByteArray) t102 t103 t104 _ A1.out).mono ?_); rintro e w71 ⟨rfl, hb⟩; refine ⟨_, rfl, ?_⟩; have n0_ := Aside0.mk (below_step (by repeat (first | (with_reducible first | exact HB.out | apply below_alloc | apply pw_below_drewN | apply below_drew1) | exact HB.out)) hb); clear HB; have HB := n0_; clear n0_; (try clear hb); (try clear hb2); (try clear hk); (try clear hi)) | ((with_reducible refine gate_dst (N := 5) rfl ?_); (try (refine gate_guard (by rfl) ?_; dsimp only)); refine Kd.R_lit k51 _ 51 ?hg (N := 5) ?hd (xs := ([(⟨(⟨t102, t103, t104⟩ : S25), 3, 5⟩ : S51)] : List (S51))) (inner := [.string t102, .string t103, .string t104, .int .i64 3, .int .i64 5]) (ok := fun _ => True) (okp := fun _ => True) ?hr ?hp (fun _ hk => hk) trivial (Below.refl _ _) (Nat.le_refl _) (by simp) ?_; (case hd => rfl); (case hg => rfl); (case hr => first | (go_simp; done) | (go_simp; rfl)); (case hp => exact (Reps.c5 (show Kd.M k51 _ _ _ (⟨(⟨t102, t103, t104⟩ : S25), 3, 5⟩ : S51) [.string t102, .string t103, .string t104, .int .i64 3, .int .i64 5] from (k51_mkM _ _ _ (⟨(⟨t102, t103, t104⟩ : S25), 3, 5⟩ : S51) )) (Reps.none _ _))); intro v106 w72 ho73 hb hg_ hnew_; clear hg_ hnew_; (first | rw [← Ny105.out] at ho73 | (simp only [Int.reduceToNat] at ho73; rw [← Ny105.out] at ho73)); have n0_ := Aside0.mk (Kd.R_lower ho73 (below_size (by repeat (first | (with_reducible first | exact HB.out | apply below_alloc | apply pw_below_drewN | apply below_drew1) | exact HB.out)))); have n1_ := Aside0.mk (below_step (by repeat (first | (with_reducible first | exact HB.out | apply below_alloc | apply pw_below_drewN | apply below_drew1) | exact HB.out)) hb); clear HB; have HO107 := n0_; have HB := n1_; clear n0_ n1_; clear hb ho73; obtain ⟨Ao74, co74, eo74⟩ := Kd.R_slice HO107.out; subst eo74) | ((with_reducible refine gate_callee (f := 8) rfl ?_); refine goesL_ (some 7) rfl rfl Try.func8 (by kernel_rfl) rfl #[.slice Ao74 y105.length co74, .int .i64 0, .int .i64 9] rfl (by (try simp only [List.map_toArray, List.map_cons, List.map_nil]); first | done | rfl | (simp only [List.length_drop, List.length_take]; rfl)) ?_; (with_reducible refine (watch_Changes.calls _ _ y105 0 9 t108 _ ?side1 ?side2 A2.out).mono ?_); (case side1 => repeat (first | exact (Kd.R_reads' HO107.out).2.2 | (with_reducible refine Kd.C_alloc ?_ _) | (with_reducible refine Kd.C_drewN ?_ _) | (with_reducible refine Kd.C_drew ?_))); (case side2 => exact (Kd.R_reads' HO107.out).2.1); rintro e w75 ⟨v109, rfl, ho0, hb⟩; refine ⟨_, rfl, ?_⟩; have n0_ := Aside0.mk (Kd.R_below (by (with_reducible repeat (first | apply Kd.R_alloc | apply Kd.R_drewN | apply Kd.R_drew)); exact HO107.out) hb); have n1_ := Aside0.mk (Kd.R_lower ho0 (below_size (by repeat (first | (with_reducible first | exact HB.out | apply below_alloc | apply pw_below_drewN | apply below_drew1) | exact HB.out)))); have n2_ := Aside0.mk (below_step (by repeat (first | (with_reducible first | exact HB.out | apply below_alloc | apply pw_below_drewN | apply below_drew1) | exact HB.out)) hb); clear HO107; clear HB; have HO107 := n0_; have HO110 := n1_; have HB := n2_; clear n0_ n1_ n2_; (try clear hb); (try clear hb2); (try clear hk); (try clear hi); (try clear ho0); obtain ⟨Ao76, co76, eo76⟩ := Kd.R_slice HO110.out; subst eo76))
    go_ret
    exact ⟨by first | rfl | (simp [errW_none, errW_some] <;> rfl) | (simp [*, errW_none, errW_some] <;> rfl), by repeat (first | (with_reducible first | exact HB.out | apply below_alloc | apply pw_below_drewN | apply below_drew1) | exact HB.out)⟩

/-! ### porterlaw22_tuples: function 9 -/
def porterlaw22_tuples.l0 : Nat → List (S25) → List (S25) → Int → Int → Option (Bool)
  | 0, _, _, _, _ => none
  | k + 1, x0, x1, x12, x13 => if x13 < x12 then (if 0 ≤ x13 then (if x13 < (x0.length : Int) then (if x13 < (x1.length : Int) then (if (!((((rd_T25 x0 x13).f0).toList) == (((rd_T25 x1 x13).f0).toList)) || (!((((rd_T25 x0 x13).f1).toList) == (((rd_T25 x1 x13).f1).toList)) || (!((((rd_T25 x0 x13).f2).toList) == (((rd_T25 x1 x13).f2).toList))))) = true then (some false) else (porterlaw22_tuples.l0 k x0 x1 x12 (wrap64 (x13 + 1)))) else (none)) else (none)) else (none)) else (some true)
def porterlaw22_tuples.f (k : Nat) (l0 : List (S25)) (l1 : List (S25)) : Option (Bool) := if (l0.length : Int) = (l1.length : Int) then (porterlaw22_tuples.l0 k l0 l1 (l0.length : Int) 0) else (some false)
theorem porterlaw22_tuples.mono_l : ∀ k, (∀ y0 y1 y2 y3, LeO (porterlaw22_tuples.l0 k y0 y1 y2 y3) (porterlaw22_tuples.l0 (k + 1) y0 y1 y2 y3))
  | 0 => fun _ _ _ _ r h => by simp [porterlaw22_tuples.l0] at h
  | k + 1 => by
    have ih0 := porterlaw22_tuples.mono_l k
    · intro y0 y1 y2 y3
      unfold porterlaw22_tuples.l0
      repeat' first
      | (with_reducible exact ih0 _ _ _ _)
      | (with_reducible exact LeO.refl _)
      | (with_reducible exact LeO.none _)
      | (with_reducible refine LeO.ite ?_ ?_)
      | (with_reducible refine LeO.bind ?_ (fun _ => ?_))
      | exact ih0 _ _ _ _
      | exact LeO.none _
      | refine LeO.ite ?_ ?_
      | refine LeO.bind ?_ (fun _ => ?_)
theorem porterlaw22_tuples.mono : ∀ a0 a1 k, LeO (porterlaw22_tuples.f k a0 a1) (porterlaw22_tuples.f (k + 1) a0 a1) := by
  intro a0 a1 k
  have ih0 := porterlaw22_tuples.mono_l k
  unfold porterlaw22_tuples.f
  repeat' first
      | (with_reducible exact ih0 _ _ _ _)
      | (with_reducible exact LeO.refl _)
      | (with_reducible exact LeO.none _)
      | (with_reducible refine LeO.ite ?_ ?_)
      | (with_reducible refine LeO.bind ?_ (fun _ => ?_))
      | exact ih0 _ _ _ _
      | exact LeO.none _
      | refine LeO.ite ?_ ?_
      | refine LeO.bind ?_ (fun _ => ?_)
set_option maxHeartbeats 8000000 in
set_option maxRecDepth 100000 in
theorem porterlaw22_tuples.calls (k : Nat) (A0 : Option Addr) (c0 : Nat) (l0 : List (S25)) (A1 : Option Addr) (c1 : Nat) (l1 : List (S25)) (r : Bool) (w : World) (hr0 : Kd.C k25 w A0 l0.length l0) (hc0 : l0.length ≤ c0) (hr1 : Kd.C k25 w A1 l1.length l1) (hc1 : l1.length ≤ c1) (h : porterlaw22_tuples.f k l0 l1 = some r) :
    Calls Try.prog 9 #[.slice A0 l0.length c0, .slice A1 l1.length c1] w fun e w' => e = .returned (.bool r) ∧ Drawn0 w w' := by
  have hu25 := Try.underlying25
  have HR0 := Aside0.mk hr0
  have HC0 := Aside0.mk hc0
  clear hr0 hc0
  have HR1 := Aside0.mk hr1
  have HC1 := Aside0.mk hc1
  clear hr1 hc1
  have H : (if (l0.length : Int) = (l1.length : Int) then (porterlaw22_tuples.l0 k l0 l1 (l0.length : Int) 0) else (some false)) = some r := h
  clear h
  by_cases c3 : (l0.length : Int) = (l1.length : Int)
  · rw [if_pos c3] at H
    have c3b0 : ((l0.length : Int) == (l1.length : Int)) = true := beq_iff_eq.mpr c3
    have c3b1 : ((l0.length : Int) != (l1.length : Int)) = false := bne_eq_false_iff_eq.mpr c3
    have c3b2 : (l0.length == l1.length) = true := by first | simpa using c3 | (simp at c3 ⊢; omega)
    clear c3
    have H' := Aside0.mk H
    clear H
    go_enter Try.func9, Try.ntmps9
    go_wp2
    repeat (go_quiet (fail); try go_wp2)
    go_loopg [13] k (fun kq v13 w' => ∃ (x13_1 : Int), v13 = .int .i64 x13_1 ∧ Aside0 (porterlaw22_tuples.l0 kq l0 l1 (l0.length : Int) x13_1 = some r) ∧ Aside0 (kq ≤ k) ∧ Drawn0 w w')
    case atStart => exact ⟨(0), (by first | rfl | (simp; done) | (simp [*]; done)), H', ⟨Nat.le_refl _⟩, by repeat (first | exact Drawn0.refl _ | apply Drawn0.step)⟩
    case round =>
      clear H'
      try clear c1
      try clear p2
      try clear c3
      try clear c3b0
      try clear c3b1
      try clear c3b2
      obtain ⟨x13_1, rfl, HA, HK1, ⟨m1, rfl⟩⟩ := hrel
      cases gk with
      | zero => exact absurd HA.out (by simp [porterlaw22_tuples.l0])
      | succ k1 =>
        have H := HA.out
        clear HA
        simp only [porterlaw22_tuples.l0] at H
        by_cases c4 : x13_1 < (l0.length : Int)
        · rw [if_pos c4] at H
          have c4b0 : decide (x13_1 < (l0.length : Int)) = true := decide_eq_true c4
          clear c4
          by_cases c5 : 0 ≤ x13_1
          · rw [if_pos c5] at H
            have c5b0 : decide (0 ≤ x13_1) = true := decide_eq_true c5
            clear c5
            by_cases c6 : x13_1 < (l0.length : Int)
            · rw [if_pos c6] at H
              have c6b0 : decide (x13_1 < (l0.length : Int)) = true := decide_eq_true c6
              clear c6
              by_cases c7 : x13_1 < (l1.length : Int)
              · rw [if_pos c7] at H
                have c7b0 : decide (x13_1 < (l1.length : Int)) = true := decide_eq_true c7
                clear c7
                by_cases c8 : (!((((rd_T25 l0 x13_1).f0).toList) == (((rd_T25 l1 x13_1).f0).toList)) || (!((((rd_T25 l0 x13_1).f1).toList) == (((rd_T25 l1 x13_1).f1).toList)) || (!((((rd_T25 l0 x13_1).f2).toList) == (((rd_T25 l1 x13_1).f2).toList))))) = true
                · rw [if_pos c8] at H
                  have c8b0 : (!((((rd_T25 l0 x13_1).f0).toList) == (((rd_T25 l1 x13_1).f0).toList)) || (!((((rd_T25 l0 x13_1).f1).toList) == (((rd_T25 l1 x13_1).f1).toList)) || (!((((rd_T25 l0 x13_1).f2).toList) == (((rd_T25 l1 x13_1).f2).toList))))) = true := c8
                  clear c8
                  obtain rfl := Option.some.inj H
                  have p124 : 0 ≤ (x13_1 : Int) := of_decide_eq_true (by first | (with_reducible assumption) | assumption)
                  have q124 : x13_1 < (l0.length : Int) := of_decide_eq_true (by first | (with_reducible assumption) | assumption)
                  obtain ⟨ad124, e124, hx124_0, hx124_1, hx124_2⟩ := at_T25 HR0.out x13_1 p124 q124
                  cases e124
                  replace p124 := eq_true p124
                  replace q124 := eq_true q124
                  have p125 : 0 ≤ (x13_1 : Int) := of_decide_eq_true (by first | (with_reducible assumption) | assumption)
                  have q125 : x13_1 < (l1.length : Int) := of_decide_eq_true (by first | (with_reducible assumption) | assumption)
                  obtain ⟨ad125, e125, hx125_0, hx125_1, hx125_2⟩ := at_T25 HR1.out x13_1 p125 q125
                  cases e125
                  replace p125 := eq_true p125
                  replace q125 := eq_true q125
                  go_wp2
                  repeat (go_quiet (fail); try go_wp2)
                  go_ret
                  exact ⟨by first | rfl | (simp; done) | (simp [*]; done), by repeat (first | exact Drawn0.refl _ | apply Drawn0.step)⟩
                · rw [if_neg c8] at H
                  have c8b0 : (!((((rd_T25 l0 x13_1).f0).toList) == (((rd_T25 l1 x13_1).f0).toList)) || (!((((rd_T25 l0 x13_1).f1).toList) == (((rd_T25 l1 x13_1).f1).toList)) || (!((((rd_T25 l0 x13_1).f2).toList) == (((rd_T25 l1 x13_1).f2).toList))))) = false := by simpa using c8
                  clear c8
                  have H' := Aside0.mk H
                  clear H
                  have p124 : 0 ≤ (x13_1 : Int) := of_decide_eq_true (by first | (with_reducible assumption) | assumption)
                  have q124 : x13_1 < (l0.length : Int) := of_decide_eq_true (by first | (with_reducible assumption) | assumption)
                  obtain ⟨ad124, e124, hx124_0, hx124_1, hx124_2⟩ := at_T25 HR0.out x13_1 p124 q124
                  cases e124
                  replace p124 := eq_true p124
                  replace q124 := eq_true q124
                  have p125 : 0 ≤ (x13_1 : Int) := of_decide_eq_true (by first | (with_reducible assumption) | assumption)
                  have q125 : x13_1 < (l1.length : Int) := of_decide_eq_true (by first | (with_reducible assumption) | assumption)
                  obtain ⟨ad125, e125, hx125_0, hx125_1, hx125_2⟩ := at_T25 HR1.out x13_1 p125 q125
                  cases e125
                  replace p125 := eq_true p125
                  replace q125 := eq_true q125
                  go_wp2
                  repeat (go_quiet (fail); try go_wp2)
                  go_roundg k1
                  case measure => have := HK1.out; omega
                  case rel => exact ⟨(wrap64 (x13_1 + 1)), (by first | rfl | (simp; done) | (simp [*]; done)), H', ⟨by have := HK1.out; omega⟩, by repeat (first | exact Drawn0.refl _ | apply Drawn0.step)⟩
              · rw [if_neg c7] at H
                exact absurd H (by simp)
            · rw [if_neg c6] at H
              exact absurd H (by simp)
          · rw [if_neg c5] at H
            exact absurd H (by simp)
        · rw [if_neg c4] at H
          have c4b0 : decide (x13_1 < (l0.length : Int)) = false := decide_eq_false c4
          clear c4
          obtain rfl := Option.some.inj H
          go_wp2
          repeat (go_quiet (fail); try go_wp2)
          go_ret
          exact ⟨by first | rfl | (simp; done) | (simp [*]; done), by repeat (first | exact Drawn0.refl _ | apply Drawn0.step)⟩
  · rw [if_neg c3] at H
    have c3b0 : ((l0.length : Int) == (l1.length : Int)) = false := beq_eq_false_iff_ne.mpr c3
    have c3b1 : ((l0.length : Int) != (l1.length : Int)) = true := bne_iff_ne.mpr c3
    have c3b2 : (l0.length == l1.length) = false := by first | simpa using c3 | (simp at c3 ⊢; omega)
    obtain rfl := Option.some.inj H
    go_enter Try.func9, Try.ntmps9
    go_wp2
    repeat (go_quiet (fail); try go_wp2)
    go_ret
    exact ⟨by first | rfl | (simp; done) | (simp [*]; done), by repeat (first | exact Drawn0.refl _ | apply Drawn0.step)⟩

-- told from outside: function 10 (watch_Play)

-- told from outside: function 16 (watch_Net)

/-! ### porterlaw22_WatchEmpty: function 5 -/
def porterlaw22_WatchEmpty.j0 : Nat → List (S51) → Int → Bool → Option (Bool)
  | 0, _, _, _ => none
  | k + 1, x0, x1, x28 => if x28 = true then (some false) else ((watch_At.f x0 x1).bind fun t133 => ((watch_Play.f t133 ([] : List (S29))).bind fun t136 => ((porterlaw22_tuples.f k t136 t133).bind fun t139 => (if t139 = true then ((watch_Net.f t133 t133).bind fun t140 => (if (t140.length : Int) = 0 then ((watch_Back.f ([] : List (S29))).bind fun t143 => (if (t143.length : Int) = 0 then ((watch_Rows.f ([] : List (S29))).bind fun t146 => (some ((t146.length : Int) == 0))) else (some false))) else (some false))) else (some false)))))
def porterlaw22_WatchEmpty.f (k : Nat) (l0 : List (S51)) (a1 : Int) (a2 : Int) : Option (Bool) := (porterlaw22_awake.f).bind fun t126 => (if t126 = true then ((watch_Changes.f l0 a1 a1).bind fun t127 => (if (t127.length : Int) = 0 then (if a1 ≥ a2 then ((watch_Changes.f l0 a1 a2).bind fun t130 => (porterlaw22_WatchEmpty.j0 k l0 a1 ((t130.length : Int) != 0))) else (porterlaw22_WatchEmpty.j0 k l0 a1 false)) else (porterlaw22_WatchEmpty.j0 k l0 a1 true))) else (some false))
theorem porterlaw22_WatchEmpty.mono_l : ∀ k, (∀ y0 y1 y2, LeO (porterlaw22_WatchEmpty.j0 k y0 y1 y2) (porterlaw22_WatchEmpty.j0 (k + 1) y0 y1 y2))
  | 0 => fun _ _ _ r h => by simp [porterlaw22_WatchEmpty.j0] at h
  | k + 1 => by
    have ih0 := porterlaw22_WatchEmpty.mono_l k
    · intro y0 y1 y2
      unfold porterlaw22_WatchEmpty.j0
      repeat' first
      | (with_reducible exact ih0 _ _ _)
      | (with_reducible exact porterlaw22_tuples.mono _ _ _)
      | (with_reducible exact LeO.refl _)
      | (with_reducible exact LeO.none _)
      | (with_reducible refine LeO.ite ?_ ?_)
      | (with_reducible refine LeO.bind ?_ (fun _ => ?_))
      | exact ih0 _ _ _
      | exact porterlaw22_tuples.mono _ _ _
      | exact LeO.none _
      | refine LeO.ite ?_ ?_
      | refine LeO.bind ?_ (fun _ => ?_)
theorem porterlaw22_WatchEmpty.mono : ∀ a0 a1 a2 k, LeO (porterlaw22_WatchEmpty.f k a0 a1 a2) (porterlaw22_WatchEmpty.f (k + 1) a0 a1 a2) := by
  intro a0 a1 a2 k
  have ih0 := porterlaw22_WatchEmpty.mono_l k
  unfold porterlaw22_WatchEmpty.f
  repeat' first
      | (with_reducible exact ih0 _ _ _)
      | (with_reducible exact porterlaw22_tuples.mono _ _ _)
      | (with_reducible exact LeO.refl _)
      | (with_reducible exact LeO.none _)
      | (with_reducible refine LeO.ite ?_ ?_)
      | (with_reducible refine LeO.bind ?_ (fun _ => ?_))
      | exact ih0 _ _ _
      | exact porterlaw22_tuples.mono _ _ _
      | exact LeO.none _
      | refine LeO.ite ?_ ?_
      | refine LeO.bind ?_ (fun _ => ?_)
set_option maxHeartbeats 8000000 in
set_option maxRecDepth 100000 in
theorem porterlaw22_WatchEmpty.calls (k : Nat) (A0 : Option Addr) (c0 : Nat) (l0 : List (S51)) (a1 : Int) (a2 : Int) (r : Bool) (w : World) (hr0 : Kd.C k51 w A0 l0.length l0) (hc0 : l0.length ≤ c0) (h : porterlaw22_WatchEmpty.f k l0 a1 a2 = some r) :
    Calls Try.prog 5 #[.slice A0 l0.length c0, .int .i64 a1, .int .i64 a2] w fun e w' => e = .returned (.bool r) ∧ Below w.heap.size w w' := by
  have HR0 := Aside0.mk hr0
  have HC0 := Aside0.mk hc0
  clear hr0 hc0
  have HB := Aside0.mk (Below.refl w.heap.size w)
  have H : ((porterlaw22_awake.f).bind fun t126 => (if t126 = true then ((watch_Changes.f l0 a1 a1).bind fun t127 => (if (t127.length : Int) = 0 then (if a1 ≥ a2 then ((watch_Changes.f l0 a1 a2).bind fun t130 => (porterlaw22_WatchEmpty.j0 k l0 a1 ((t130.length : Int) != 0))) else (porterlaw22_WatchEmpty.j0 k l0 a1 false)) else (porterlaw22_WatchEmpty.j0 k l0 a1 true))) else (some false))) = some r := h
  clear h
  replace H := Option.bind_eq_some_iff.mp H
  obtain ⟨t126, A40, H⟩ := H
  replace H : (if t126 = true then ((watch_Changes.f l0 a1 a1).bind fun t127 => (if (t127.length : Int) = 0 then (if a1 ≥ a2 then ((watch_Changes.f l0 a1 a2).bind fun t130 => (porterlaw22_WatchEmpty.j0 k l0 a1 ((t130.length : Int) != 0))) else (porterlaw22_WatchEmpty.j0 k l0 a1 false)) else (porterlaw22_WatchEmpty.j0 k l0 a1 true))) else (some false)) = some r := H
  have A4 := Aside0.mk A40
  clear A40
  by_cases c5 : t126 = true
  · subst c5
    have H1 : ((watch_Changes.f l0 a1 a1).bind fun t127 => (if (t127.length : Int) = 0 then (if a1 ≥ a2 then ((watch_Changes.f l0 a1 a2).bind fun t130 => (porterlaw22_WatchEmpty.j0 k l0 a1 ((t130.length : Int) != 0))) else (porterlaw22_WatchEmpty.j0 k l0 a1 false)) else (porterlaw22_WatchEmpty.j0 k l0 a1 true))) = some r := by rw [if_pos rfl] at H; exact H
    clear H
    have H := H1
    clear H1
    have HC6 := Aside0.mk H
    clear H
    go_enter Try.func5, Try.ntmps5
    go_upto_region 3 with (first | ((with_reducible refine gate_callee (f := 6) rfl ?_); refine goesL_ (some 8) rfl rfl Try.func6 (by kernel_rfl) rfl #[] rfl (by (try simp only [List.map_toArray, List.map_cons, List.map_nil]); first | done | rfl | (simp only [List.length_drop, List.length_take]; rfl)) ?_; (with_reducible refine (porterlaw22_awake.calls  true _ A4.out).mono ?_); rintro e w7 ⟨rfl, hb⟩; refine ⟨_, rfl, ?_⟩; have n0_ := Aside0.mk (below_step (by repeat (first | (with_reducible first | exact HB.out | apply below_alloc | apply pw_below_drewN | apply below_drew1) | exact HB.out)) hb); clear HB; have HB := n0_; clear n0_; (try clear hb); (try clear hb2); (try clear hk); (try clear hi)))
    (try simp only [Act.put, List.setIfInBounds_toArray, List.set_cons_zero, List.set_cons_succ])
    go_cut [28] (fun v28 wc => ∃ (kq : Nat) (x28_5 : Bool), v28 = .bool x28_5 ∧ Aside0 (porterlaw22_WatchEmpty.j0 kq l0 a1 x28_5 = some r) ∧ Aside0 (kq ≤ k) ∧ Aside0 (Below w.heap.size w wc))
    case first =>
      have H := HC6.out
      clear HC6
      replace H := Option.bind_eq_some_iff.mp H
      obtain ⟨t127, A80, H⟩ := H
      replace H : (if (t127.length : Int) = 0 then (if a1 ≥ a2 then ((watch_Changes.f l0 a1 a2).bind fun t130 => (porterlaw22_WatchEmpty.j0 k l0 a1 ((t130.length : Int) != 0))) else (porterlaw22_WatchEmpty.j0 k l0 a1 false)) else (porterlaw22_WatchEmpty.j0 k l0 a1 true)) = some r := H
      have A8 := Aside0.mk A80
      clear A80
      by_cases c9 : (t127.length : Int) = 0
      · rw [if_pos c9] at H
        have c9b0 : ((t127.length : Int) == 0) = true := beq_iff_eq.mpr c9
        have c9b1 : ((t127.length : Int) != 0) = false := bne_eq_false_iff_eq.mpr c9
        clear c9
        (first | rw [c9b0] | (simp only [i64_w, i32_w]; rw [c9b0]) | skip)
        by_cases c10 : a1 ≥ a2
        · rw [if_pos c10] at H
          have c10b0 : decide (a2 ≤ a1) = true := decide_eq_true c10
          clear c10
          replace H := Option.bind_eq_some_iff.mp H
          obtain ⟨t130, A110, H⟩ := H
          replace H : (porterlaw22_WatchEmpty.j0 k l0 a1 ((t130.length : Int) != 0)) = some r := H
          have A11 := Aside0.mk A110
          clear A110
          have H' := Aside0.mk H
          clear H
          go_wp2_with (first | ((with_reducible refine gate_callee (f := 8) rfl ?_); refine goesL_ (some 13) rfl rfl Try.func8 (by kernel_rfl) rfl #[.slice A0 l0.length c0, .int .i64 a1, .int .i64 a1] rfl (by (try simp only [List.map_toArray, List.map_cons, List.map_nil]); first | done | rfl | (simp only [List.length_drop, List.length_take]; rfl)) ?_; (with_reducible refine (watch_Changes.calls _ _ l0 a1 a1 t127 _ ?side1 ?side2 A8.out).mono ?_); (case side1 => repeat (first | exact (Kd.C_below HR0.out HB.out) | (with_reducible refine Kd.C_alloc ?_ _) | (with_reducible refine Kd.C_drewN ?_ _) | (with_reducible refine Kd.C_drew ?_))); (case side2 => exact HC0.out); rintro e w12 ⟨v128, rfl, ho0, hb⟩; refine ⟨_, rfl, ?_⟩; have n0_ := Aside0.mk (Kd.R_lower ho0 (below_size (by repeat (first | (with_reducible first | exact HB.out | apply below_alloc | apply pw_below_drewN | apply below_drew1) | exact HB.out)))); have n1_ := Aside0.mk (below_step (by repeat (first | (with_reducible first | exact HB.out | apply below_alloc | apply pw_below_drewN | apply below_drew1) | exact HB.out)) hb); clear HB; have HO129 := n0_; have HB := n1_; clear n0_ n1_; (try clear hb); (try clear hb2); (try clear hk); (try clear hi); (try clear ho0); obtain ⟨Ao13, co13, eo13⟩ := Kd.R_slice HO129.out; subst eo13) | (go_at_call 8; (with_reducible refine (watch_Changes.calls _ _ l0 a1 a2 t130 _ ?side1 ?side2 A11.out).mono ?_); (case side1 => repeat (first | exact (Kd.C_below HR0.out HB.out) | (with_reducible refine Kd.C_alloc ?_ _) | (with_reducible refine Kd.C_drewN ?_ _) | (with_reducible refine Kd.C_drew ?_))); (case side2 => exact HC0.out); rintro e w14 ⟨v131, rfl, ho0, hb⟩; have n0_ := Aside0.mk (Kd.R_elder' (by (with_reducible repeat (first | apply Kd.R_alloc | apply Kd.R_drewN | apply Kd.R_drew)); exact HO129.out) (Kd.R_base ho0) hb); have n1_ := Aside0.mk (Kd.R_lower (Kd.R_new' ho0 (Kd.R_lt (by (with_reducible repeat (first | apply Kd.R_alloc | apply Kd.R_drewN | apply Kd.R_drew)); exact HO129.out))) (below_size (by repeat (first | (with_reducible first | exact HB.out | apply below_alloc | apply pw_below_drewN | apply below_drew1) | exact HB.out)))); have n2_ := Aside0.mk (below_step (by repeat (first | (with_reducible first | exact HB.out | apply below_alloc | apply pw_below_drewN | apply below_drew1) | exact HB.out)) hb); clear HO129; clear HB; have HO129 := n0_; have HO132 := n1_; have HB := n2_; clear n0_ n1_ n2_; (try clear hb); (try clear hb2); (try clear hk); (try clear hi); (try clear ho0); obtain ⟨Ao15, co15, eo15⟩ := Kd.R_slice HO132.out; subst eo15))
          go_meet
          case rel => exact ⟨_, (((t130.length : Int) != 0)), (by first | rfl | (simp; done) | (simp [*]; done)), H', ⟨by first | omega | exact Nat.le_refl _⟩, ⟨by repeat (first | (with_reducible first | exact HB.out | apply below_alloc | apply pw_below_drewN | apply below_drew1) | exact HB.out)⟩⟩
        · rw [if_neg c10] at H
          have c10b0 : decide (a2 ≤ a1) = false := decide_eq_false c10
          clear c10
          have H' := Aside0.mk H
          clear H
          go_wp2_with (first | ((with_reducible refine gate_callee (f := 8) rfl ?_); refine goesL_ (some 13) rfl rfl Try.func8 (by kernel_rfl) rfl #[.slice A0 l0.length c0, .int .i64 a1, .int .i64 a1] rfl (by (try simp only [List.map_toArray, List.map_cons, List.map_nil]); first | done | rfl | (simp only [List.length_drop, List.length_take]; rfl)) ?_; (with_reducible refine (watch_Changes.calls _ _ l0 a1 a1 t127 _ ?side1 ?side2 A8.out).mono ?_); (case side1 => repeat (first | exact (Kd.C_below HR0.out HB.out) | (with_reducible refine Kd.C_alloc ?_ _) | (with_reducible refine Kd.C_drewN ?_ _) | (with_reducible refine Kd.C_drew ?_))); (case side2 => exact HC0.out); rintro e w16 ⟨v128, rfl, ho0, hb⟩; refine ⟨_, rfl, ?_⟩; have n0_ := Aside0.mk (Kd.R_lower ho0 (below_size (by repeat (first | (with_reducible first | exact HB.out | apply below_alloc | apply pw_below_drewN | apply below_drew1) | exact HB.out)))); have n1_ := Aside0.mk (below_step (by repeat (first | (with_reducible first | exact HB.out | apply below_alloc | apply pw_below_drewN | apply below_drew1) | exact HB.out)) hb); clear HB; have HO129 := n0_; have HB := n1_; clear n0_ n1_; (try clear hb); (try clear hb2); (try clear hk); (try clear hi); (try clear ho0); obtain ⟨Ao17, co17, eo17⟩ := Kd.R_slice HO129.out; subst eo17))
          go_meet
          case rel => exact ⟨_, (false), (by first | rfl | (simp; done) | (simp [*]; done)), H', ⟨by first | omega | exact Nat.le_refl _⟩, ⟨by repeat (first | (with_reducible first | exact HB.out | apply below_alloc | apply pw_below_drewN | apply below_drew1) | exact HB.out)⟩⟩
      · rw [if_neg c9] at H
        have c9b0 : ((t127.length : Int) == 0) = false := beq_eq_false_iff_ne.mpr c9
        have c9b1 : ((t127.length : Int) != 0) = true := bne_iff_ne.mpr c9
        have c9b2 : ¬ (t127 = []) := fun h_ => c9 (by rw [h_]; rfl)
        (first | rw [c9b0] | (simp only [i64_w, i32_w]; rw [c9b0]) | skip)
        have H' := Aside0.mk H
        clear H
        go_wp2_with (first | ((with_reducible refine gate_callee (f := 8) rfl ?_); refine goesL_ (some 13) rfl rfl Try.func8 (by kernel_rfl) rfl #[.slice A0 l0.length c0, .int .i64 a1, .int .i64 a1] rfl (by (try simp only [List.map_toArray, List.map_cons, List.map_nil]); first | done | rfl | (simp only [List.length_drop, List.length_take]; rfl)) ?_; (with_reducible refine (watch_Changes.calls _ _ l0 a1 a1 t127 _ ?side1 ?side2 A8.out).mono ?_); (case side1 => repeat (first | exact (Kd.C_below HR0.out HB.out) | (with_reducible refine Kd.C_alloc ?_ _) | (with_reducible refine Kd.C_drewN ?_ _) | (with_reducible refine Kd.C_drew ?_))); (case side2 => exact HC0.out); rintro e w18 ⟨v128, rfl, ho0, hb⟩; refine ⟨_, rfl, ?_⟩; have n0_ := Aside0.mk (Kd.R_lower ho0 (below_size (by repeat (first | (with_reducible first | exact HB.out | apply below_alloc | apply pw_below_drewN | apply below_drew1) | exact HB.out)))); have n1_ := Aside0.mk (below_step (by repeat (first | (with_reducible first | exact HB.out | apply below_alloc | apply pw_below_drewN | apply below_drew1) | exact HB.out)) hb); clear HB; have HO129 := n0_; have HB := n1_; clear n0_ n1_; (try clear hb); (try clear hb2); (try clear hk); (try clear hi); (try clear ho0); obtain ⟨Ao19, co19, eo19⟩ := Kd.R_slice HO129.out; subst eo19))
        go_meet
        case rel => exact ⟨_, (true), (by first | rfl | (simp; done) | (simp [*]; done)), H', ⟨by first | omega | exact Nat.le_refl _⟩, ⟨by repeat (first | (with_reducible first | exact HB.out | apply below_alloc | apply pw_below_drewN | apply below_drew1) | exact HB.out)⟩⟩
    case rest =>
      clear HC6
      try clear c1
      try clear p2
      try clear c5
      try clear c6
      try clear c8
      try clear c9
      try clear c9b0
      try clear c9b1
      try clear c9b2
      try clear c10
      try clear c10b0
      obtain ⟨kq, x28_5, rfl, HA, HJ5, HB⟩ := hcut
      cases kq with
      | zero => exact absurd HA.out (by simp [porterlaw22_WatchEmpty.j0])
      | succ kj5 =>
        have H := HA.out
        clear HA
        simp only [porterlaw22_WatchEmpty.j0] at H
        by_cases c20 : x28_5 = true
        · subst c20
          have H1 : (some false) = some r := by rw [if_pos rfl] at H; exact H
          clear H
          have H := H1
          clear H1
          obtain rfl := Option.some.inj H
          go_wp2
          go_ret
          exact ⟨by first | rfl | (simp [errW_none, errW_some] <;> rfl) | (simp [*, errW_none, errW_some] <;> rfl), by repeat (first | (with_reducible first | exact HB.out | apply below_alloc | apply pw_below_drewN | apply below_drew1) | exact HB.out)⟩
        · replace c20 := Bool.eq_false_iff.mpr c20
          subst c20
          have H1 : ((watch_At.f l0 a1).bind fun t133 => ((watch_Play.f t133 ([] : List (S29))).bind fun t136 => ((porterlaw22_tuples.f kj5 t136 t133).bind fun t139 => (if t139 = true then ((watch_Net.f t133 t133).bind fun t140 => (if (t140.length : Int) = 0 then ((watch_Back.f ([] : List (S29))).bind fun t143 => (if (t143.length : Int) = 0 then ((watch_Rows.f ([] : List (S29))).bind fun t146 => (some ((t146.length : Int) == 0))) else (some false))) else (some false))) else (some false))))) = some r := by rw [if_neg (show ¬ (false = true) by decide)] at H; exact H
          clear H
          have H := H1
          clear H1
          replace H := Option.bind_eq_some_iff.mp H
          obtain ⟨t133, A210, H⟩ := H
          replace H : ((watch_Play.f t133 ([] : List (S29))).bind fun t136 => ((porterlaw22_tuples.f kj5 t136 t133).bind fun t139 => (if t139 = true then ((watch_Net.f t133 t133).bind fun t140 => (if (t140.length : Int) = 0 then ((watch_Back.f ([] : List (S29))).bind fun t143 => (if (t143.length : Int) = 0 then ((watch_Rows.f ([] : List (S29))).bind fun t146 => (some ((t146.length : Int) == 0))) else (some false))) else (some false))) else (some false)))) = some r := H
          have A21 := Aside0.mk A210
          clear A210
          replace H := Option.bind_eq_some_iff.mp H
          obtain ⟨t136, A220, H⟩ := H
          replace H : ((porterlaw22_tuples.f kj5 t136 t133).bind fun t139 => (if t139 = true then ((watch_Net.f t133 t133).bind fun t140 => (if (t140.length : Int) = 0 then ((watch_Back.f ([] : List (S29))).bind fun t143 => (if (t143.length : Int) = 0 then ((watch_Rows.f ([] : List (S29))).bind fun t146 => (some ((t146.length : Int) == 0))) else (some false))) else (some false))) else (some false))) = some r := H
          have A22 := Aside0.mk A220
          clear A220
          replace H := Option.bind_eq_some_iff.mp H
          obtain ⟨t139, A230, H⟩ := H
          replace H : (if t139 = true then ((watch_Net.f t133 t133).bind fun t140 => (if (t140.length : Int) = 0 then ((watch_Back.f ([] : List (S29))).bind fun t143 => (if (t143.length : Int) = 0 then ((watch_Rows.f ([] : List (S29))).bind fun t146 => (some ((t146.length : Int) == 0))) else (some false))) else (some false))) else (some false)) = some r := H
          have A23 := Aside0.mk A230
          clear A230
          by_cases c24 : t139 = true
          · subst c24
            have H1 : ((watch_Net.f t133 t133).bind fun t140 => (if (t140.length : Int) = 0 then ((watch_Back.f ([] : List (S29))).bind fun t143 => (if (t143.length : Int) = 0 then ((watch_Rows.f ([] : List (S29))).bind fun t146 => (some ((t146.length : Int) == 0))) else (some false))) else (some false))) = some r := by rw [if_pos rfl] at H; exact H
            clear H
            have H := H1
            clear H1
            replace H := Option.bind_eq_some_iff.mp H
            obtain ⟨t140, A250, H⟩ := H
            replace H : (if (t140.length : Int) = 0 then ((watch_Back.f ([] : List (S29))).bind fun t143 => (if (t143.length : Int) = 0 then ((watch_Rows.f ([] : List (S29))).bind fun t146 => (some ((t146.length : Int) == 0))) else (some false))) else (some false)) = some r := H
            have A25 := Aside0.mk A250
            clear A250
            by_cases c26 : (t140.length : Int) = 0
            · rw [if_pos c26] at H
              have c26b0 : ((t140.length : Int) == 0) = true := beq_iff_eq.mpr c26
              have c26b1 : ((t140.length : Int) != 0) = false := bne_eq_false_iff_eq.mpr c26
              clear c26
              replace H := Option.bind_eq_some_iff.mp H
              obtain ⟨t143, A270, H⟩ := H
              replace H : (if (t143.length : Int) = 0 then ((watch_Rows.f ([] : List (S29))).bind fun t146 => (some ((t146.length : Int) == 0))) else (some false)) = some r := H
              have A27 := Aside0.mk A270
              clear A270
              by_cases c28 : (t143.length : Int) = 0
              · rw [if_pos c28] at H
                have c28b0 : ((t143.length : Int) == 0) = true := beq_iff_eq.mpr c28
                have c28b1 : ((t143.length : Int) != 0) = false := bne_eq_false_iff_eq.mpr c28
                clear c28
                replace H := Option.bind_eq_some_iff.mp H
                obtain ⟨t146, A290, H⟩ := H
                replace H : (some ((t146.length : Int) == 0)) = some r := H
                have A29 := Aside0.mk A290
                clear A290
                obtain rfl := Option.some.inj H
                go_wp2_with (first | ((with_reducible refine gate_callee (f := 18) rfl ?_); refine goesL_ (some 31) rfl rfl Try.func18 (by kernel_rfl) rfl #[.slice A0 l0.length c0, .int .i64 a1] rfl (by (try simp only [List.map_toArray, List.map_cons, List.map_nil]); first | done | rfl | (simp only [List.length_drop, List.length_take]; rfl)) ?_; (with_reducible refine (watch_At.calls _ _ l0 a1 t133 _ ?side1 ?side2 A21.out).mono ?_); (case side1 => repeat (first | exact (Kd.C_below HR0.out HB.out) | (with_reducible refine Kd.C_alloc ?_ _) | (with_reducible refine Kd.C_drewN ?_ _) | (with_reducible refine Kd.C_drew ?_))); (case side2 => exact HC0.out); rintro e w30 ⟨v134, rfl, ho0, hb⟩; refine ⟨_, rfl, ?_⟩; have n0_ := Aside0.mk (Kd.R_lower ho0 (below_size (by repeat (first | (with_reducible first | exact HB.out | apply below_alloc | apply pw_below_drewN | apply below_drew1) | exact HB.out)))); have n1_ := Aside0.mk (below_step (by repeat (first | (with_reducible first | exact HB.out | apply below_alloc | apply pw_below_drewN | apply below_drew1) | exact HB.out)) hb); clear HB; have HO135 := n0_; have HB := n1_; clear n0_ n1_; (try clear hb); (try clear hb2); (try clear hk); (try clear hi); (try clear ho0); obtain ⟨Ao31, co31, eo31⟩ := Kd.R_slice HO135.out; subst eo31) | ((with_reducible refine gate_callee (f := 10) rfl ?_); refine goesL_ (some 33) rfl rfl Try.func10 (by kernel_rfl) rfl #[.slice Ao31 t133.length co31, .slice none 0 0] rfl (by (try simp only [List.map_toArray, List.map_cons, List.map_nil]); first | done | rfl | (simp only [List.length_drop, List.length_take]; rfl)) ?_; (refine (watch_Play.calls _ _ t133 _ _ ([] : List (S29)) t136 _ ?side1 ?side2 ?side3 ?side4 A22.out).mono ?_); (case side1 => repeat (first | exact (Kd.R_reads' HO135.out).2.2 | (with_reducible refine Kd.C_alloc ?_ _) | (with_reducible refine Kd.C_drewN ?_ _) | (with_reducible refine Kd.C_drew ?_))); (case side2 => exact (Kd.R_reads' HO135.out).2.1); (case side3 => exact Kd.C_nil _ _); (case side4 => exact Nat.le_refl _); rintro e w32 ⟨v137, rfl, ho0, hb⟩; refine ⟨_, rfl, ?_⟩; have n0_ := Aside0.mk (Kd.R_elder' (by (with_reducible repeat (first | apply Kd.R_alloc | apply Kd.R_drewN | apply Kd.R_drew)); exact HO135.out) (Kd.R_base ho0) hb); have n1_ := Aside0.mk (Kd.R_lower (Kd.R_new' ho0 (Kd.R_lt (by (with_reducible repeat (first | apply Kd.R_alloc | apply Kd.R_drewN | apply Kd.R_drew)); exact HO135.out))) (below_size (by repeat (first | (with_reducible first | exact HB.out | apply below_alloc | apply pw_below_drewN | apply below_drew1) | exact HB.out)))); have n2_ := Aside0.mk (below_step (by repeat (first | (with_reducible first | exact HB.out | apply below_alloc | apply pw_below_drewN | apply below_drew1) | exact HB.out)) hb); clear HO135; clear HB; have HO135 := n0_; have HO138 := n1_; have HB := n2_; clear n0_ n1_ n2_; (try clear hb); (try clear hb2); (try clear hk); (try clear hi); (try clear ho0); obtain ⟨Ao33, co33, eo33⟩ := Kd.R_slice HO138.out; subst eo33) | ((with_reducible refine gate_callee (f := 9) rfl ?_); refine goesL_ (some 35) rfl rfl Try.func9 (by kernel_rfl) rfl #[.slice Ao33 t136.length co33, .slice Ao31 t133.length co31] rfl (by (try simp only [List.map_toArray, List.map_cons, List.map_nil]); first | done | rfl | (simp only [List.length_drop, List.length_take]; rfl)) ?_; (with_reducible refine (porterlaw22_tuples.calls kj5 _ _ t136 _ _ t133 true _ ?side1 ?side2 ?side3 ?side4 A23.out).mono ?_); (case side1 => repeat (first | exact (Kd.R_reads' HO138.out).2.2 | (with_reducible refine Kd.C_alloc ?_ _) | (with_reducible refine Kd.C_drewN ?_ _) | (with_reducible refine Kd.C_drew ?_))); (case side2 => exact (Kd.R_reads' HO138.out).2.1); (case side3 => repeat (first | exact (Kd.R_reads' HO135.out).2.2 | (with_reducible refine Kd.C_alloc ?_ _) | (with_reducible refine Kd.C_drewN ?_ _) | (with_reducible refine Kd.C_drew ?_))); (case side4 => exact (Kd.R_reads' HO135.out).2.1); rintro e w' ⟨rfl, ⟨nd, rfl⟩⟩; refine ⟨_, rfl, ?_⟩) | (go_at_call 16; (with_reducible refine (watch_Net.calls _ _ t133 _ _ t133 t140 _ ?side1 ?side2 ?side3 ?side4 A25.out).mono ?_); (case side1 => repeat (first | exact (Kd.R_reads' HO135.out).2.2 | (with_reducible refine Kd.C_alloc ?_ _) | (with_reducible refine Kd.C_drewN ?_ _) | (with_reducible refine Kd.C_drew ?_))); (case side2 => exact (Kd.R_reads' HO135.out).2.1); (case side3 => repeat (first | exact (Kd.R_reads' HO135.out).2.2 | (with_reducible refine Kd.C_alloc ?_ _) | (with_reducible refine Kd.C_drewN ?_ _) | (with_reducible refine Kd.C_drew ?_))); (case side4 => exact (Kd.R_reads' HO135.out).2.1); rintro e w34 ⟨v141, rfl, ho0, hb⟩; have n0_ := Aside0.mk (Kd.R_below (by (with_reducible repeat (first | apply Kd.R_alloc | apply Kd.R_drewN | apply Kd.R_drew)); exact HO135.out) hb); have n1_ := Aside0.mk (Kd.R_below (by (with_reducible repeat (first | apply Kd.R_alloc | apply Kd.R_drewN | apply Kd.R_drew)); exact HO138.out) hb); have n2_ := Aside0.mk (Kd.R_lower ho0 (below_size (by repeat (first | (with_reducible first | exact HB.out | apply below_alloc | apply pw_below_drewN | apply below_drew1) | exact HB.out)))); have n3_ := Aside0.mk (below_step (by repeat (first | (with_reducible first | exact HB.out | apply below_alloc | apply pw_below_drewN | apply below_drew1) | exact HB.out)) hb); clear HO135; clear HO138; clear HB; have HO135 := n0_; have HO138 := n1_; have HO142 := n2_; have HB := n3_; clear n0_ n1_ n2_ n3_; (try clear hb); (try clear hb2); (try clear hk); (try clear hi); (try clear ho0); obtain ⟨Ao35, co35, eo35⟩ := Kd.R_slice HO142.out; subst eo35) | (go_at_call 19; (refine (watch_Back.calls _ _ ([] : List (S29)) t143 _ ?side1 ?side2 A27.out).mono ?_); (case side1 => exact Kd.C_nil _ _); (case side2 => exact Nat.le_refl _); rintro e w36 ⟨v144, rfl, ho0, hb⟩; have n0_ := Aside0.mk (Kd.R_below (by (with_reducible repeat (first | apply Kd.R_alloc | apply Kd.R_drewN | apply Kd.R_drew)); exact HO135.out) hb); have n1_ := Aside0.mk (Kd.R_below (by (with_reducible repeat (first | apply Kd.R_alloc | apply Kd.R_drewN | apply Kd.R_drew)); exact HO138.out) hb); have n2_ := Aside0.mk (Kd.R_below (by (with_reducible repeat (first | apply Kd.R_alloc | apply Kd.R_drewN | apply Kd.R_drew)); exact HO142.out) hb); have n3_ := Aside0.mk (Kd.R_lower ho0 (below_size (by repeat (first | (with_reducible first | exact HB.out | apply below_alloc | apply pw_below_drewN | apply below_drew1) | exact HB.out)))); have n4_ := Aside0.mk (below_step (by repeat (first | (with_reducible first | exact HB.out | apply below_alloc | apply pw_below_drewN | apply below_drew1) | exact HB.out)) hb); clear HO135; clear HO138; clear HO142; clear HB; have HO135 := n0_; have HO138 := n1_; have HO142 := n2_; have HO145 := n3_; have HB := n4_; clear n0_ n1_ n2_ n3_ n4_; (try clear hb); (try clear hb2); (try clear hk); (try clear hi); (try clear ho0); obtain ⟨Ao37, co37, eo37⟩ := Kd.R_slice HO145.out; subst eo37) | (go_at_call 7; (refine (watch_Rows.calls _ _ ([] : List (S29)) t146 _ ?side1 ?side2 A29.out).mono ?_); (case side1 => exact Kd.C_nil _ _); (case side2 => exact Nat.le_refl _); rintro e w38 ⟨v147, rfl, ho0, hb⟩; have n0_ := Aside0.mk (Kd.R_below (by (with_reducible repeat (first | apply Kd.R_alloc | apply Kd.R_drewN | apply Kd.R_drew)); exact HO135.out) hb); have n1_ := Aside0.mk (Kd.R_below (by (with_reducible repeat (first | apply Kd.R_alloc | apply Kd.R_drewN | apply Kd.R_drew)); exact HO138.out) hb); have n2_ := Aside0.mk (Kd.R_below (by (with_reducible repeat (first | apply Kd.R_alloc | apply Kd.R_drewN | apply Kd.R_drew)); exact HO142.out) hb); have n3_ := Aside0.mk (Kd.R_below (by (with_reducible repeat (first | apply Kd.R_alloc | apply Kd.R_drewN | apply Kd.R_drew)); exact HO145.out) hb); have n4_ := Aside0.mk (Kd.R_lower ho0 (below_size (by repeat (first | (with_reducible first | exact HB.out | apply below_alloc | apply pw_below_drewN | apply below_drew1) | exact HB.out)))); have n5_ := Aside0.mk (below_step (by repeat (first | (with_reducible first | exact HB.out | apply below_alloc | apply pw_below_drewN | apply below_drew1) | exact HB.out)) hb); clear HO135; clear HO138; clear HO142; clear HO145; clear HB; have HO135 := n0_; have HO138 := n1_; have HO142 := n2_; have HO145 := n3_; have HO148 := n4_; have HB := n5_; clear n0_ n1_ n2_ n3_ n4_ n5_; (try clear hb); (try clear hb2); (try clear hk); (try clear hi); (try clear ho0); obtain ⟨Ao39, co39, eo39⟩ := Kd.R_slice HO148.out; subst eo39))
                go_ret
                exact ⟨by first | rfl | (simp [errW_none, errW_some] <;> rfl) | (simp [*, errW_none, errW_some] <;> rfl), by repeat (first | (with_reducible first | exact HB.out | apply below_alloc | apply pw_below_drewN | apply below_drew1) | exact HB.out)⟩
              · rw [if_neg c28] at H
                have c28b0 : ((t143.length : Int) == 0) = false := beq_eq_false_iff_ne.mpr c28
                have c28b1 : ((t143.length : Int) != 0) = true := bne_iff_ne.mpr c28
                have c28b2 : ¬ (t143 = []) := fun h_ => c28 (by rw [h_]; rfl)
                obtain rfl := Option.some.inj H
                go_wp2_with (first | ((with_reducible refine gate_callee (f := 18) rfl ?_); refine goesL_ (some 31) rfl rfl Try.func18 (by kernel_rfl) rfl #[.slice A0 l0.length c0, .int .i64 a1] rfl (by (try simp only [List.map_toArray, List.map_cons, List.map_nil]); first | done | rfl | (simp only [List.length_drop, List.length_take]; rfl)) ?_; (with_reducible refine (watch_At.calls _ _ l0 a1 t133 _ ?side1 ?side2 A21.out).mono ?_); (case side1 => repeat (first | exact (Kd.C_below HR0.out HB.out) | (with_reducible refine Kd.C_alloc ?_ _) | (with_reducible refine Kd.C_drewN ?_ _) | (with_reducible refine Kd.C_drew ?_))); (case side2 => exact HC0.out); rintro e w40 ⟨v134, rfl, ho0, hb⟩; refine ⟨_, rfl, ?_⟩; have n0_ := Aside0.mk (Kd.R_lower ho0 (below_size (by repeat (first | (with_reducible first | exact HB.out | apply below_alloc | apply pw_below_drewN | apply below_drew1) | exact HB.out)))); have n1_ := Aside0.mk (below_step (by repeat (first | (with_reducible first | exact HB.out | apply below_alloc | apply pw_below_drewN | apply below_drew1) | exact HB.out)) hb); clear HB; have HO135 := n0_; have HB := n1_; clear n0_ n1_; (try clear hb); (try clear hb2); (try clear hk); (try clear hi); (try clear ho0); obtain ⟨Ao41, co41, eo41⟩ := Kd.R_slice HO135.out; subst eo41) | ((with_reducible refine gate_callee (f := 10) rfl ?_); refine goesL_ (some 33) rfl rfl Try.func10 (by kernel_rfl) rfl #[.slice Ao41 t133.length co41, .slice none 0 0] rfl (by (try simp only [List.map_toArray, List.map_cons, List.map_nil]); first | done | rfl | (simp only [List.length_drop, List.length_take]; rfl)) ?_; (refine (watch_Play.calls _ _ t133 _ _ ([] : List (S29)) t136 _ ?side1 ?side2 ?side3 ?side4 A22.out).mono ?_); (case side1 => repeat (first | exact (Kd.R_reads' HO135.out).2.2 | (with_reducible refine Kd.C_alloc ?_ _) | (with_reducible refine Kd.C_drewN ?_ _) | (with_reducible refine Kd.C_drew ?_))); (case side2 => exact (Kd.R_reads' HO135.out).2.1); (case side3 => exact Kd.C_nil _ _); (case side4 => exact Nat.le_refl _); rintro e w42 ⟨v137, rfl, ho0, hb⟩; refine ⟨_, rfl, ?_⟩; have n0_ := Aside0.mk (Kd.R_elder' (by (with_reducible repeat (first | apply Kd.R_alloc | apply Kd.R_drewN | apply Kd.R_drew)); exact HO135.out) (Kd.R_base ho0) hb); have n1_ := Aside0.mk (Kd.R_lower (Kd.R_new' ho0 (Kd.R_lt (by (with_reducible repeat (first | apply Kd.R_alloc | apply Kd.R_drewN | apply Kd.R_drew)); exact HO135.out))) (below_size (by repeat (first | (with_reducible first | exact HB.out | apply below_alloc | apply pw_below_drewN | apply below_drew1) | exact HB.out)))); have n2_ := Aside0.mk (below_step (by repeat (first | (with_reducible first | exact HB.out | apply below_alloc | apply pw_below_drewN | apply below_drew1) | exact HB.out)) hb); clear HO135; clear HB; have HO135 := n0_; have HO138 := n1_; have HB := n2_; clear n0_ n1_ n2_; (try clear hb); (try clear hb2); (try clear hk); (try clear hi); (try clear ho0); obtain ⟨Ao43, co43, eo43⟩ := Kd.R_slice HO138.out; subst eo43) | ((with_reducible refine gate_callee (f := 9) rfl ?_); refine goesL_ (some 35) rfl rfl Try.func9 (by kernel_rfl) rfl #[.slice Ao43 t136.length co43, .slice Ao41 t133.length co41] rfl (by (try simp only [List.map_toArray, List.map_cons, List.map_nil]); first | done | rfl | (simp only [List.length_drop, List.length_take]; rfl)) ?_; (with_reducible refine (porterlaw22_tuples.calls kj5 _ _ t136 _ _ t133 true _ ?side1 ?side2 ?side3 ?side4 A23.out).mono ?_); (case side1 => repeat (first | exact (Kd.R_reads' HO138.out).2.2 | (with_reducible refine Kd.C_alloc ?_ _) | (with_reducible refine Kd.C_drewN ?_ _) | (with_reducible refine Kd.C_drew ?_))); (case side2 => exact (Kd.R_reads' HO138.out).2.1); (case side3 => repeat (first | exact (Kd.R_reads' HO135.out).2.2 | (with_reducible refine Kd.C_alloc ?_ _) | (with_reducible refine Kd.C_drewN ?_ _) | (with_reducible refine Kd.C_drew ?_))); (case side4 => exact (Kd.R_reads' HO135.out).2.1); rintro e w' ⟨rfl, ⟨nd, rfl⟩⟩; refine ⟨_, rfl, ?_⟩) | (go_at_call 16; (with_reducible refine (watch_Net.calls _ _ t133 _ _ t133 t140 _ ?side1 ?side2 ?side3 ?side4 A25.out).mono ?_); (case side1 => repeat (first | exact (Kd.R_reads' HO135.out).2.2 | (with_reducible refine Kd.C_alloc ?_ _) | (with_reducible refine Kd.C_drewN ?_ _) | (with_reducible refine Kd.C_drew ?_))); (case side2 => exact (Kd.R_reads' HO135.out).2.1); (case side3 => repeat (first | exact (Kd.R_reads' HO135.out).2.2 | (with_reducible refine Kd.C_alloc ?_ _) | (with_reducible refine Kd.C_drewN ?_ _) | (with_reducible refine Kd.C_drew ?_))); (case side4 => exact (Kd.R_reads' HO135.out).2.1); rintro e w44 ⟨v141, rfl, ho0, hb⟩; have n0_ := Aside0.mk (Kd.R_below (by (with_reducible repeat (first | apply Kd.R_alloc | apply Kd.R_drewN | apply Kd.R_drew)); exact HO135.out) hb); have n1_ := Aside0.mk (Kd.R_below (by (with_reducible repeat (first | apply Kd.R_alloc | apply Kd.R_drewN | apply Kd.R_drew)); exact HO138.out) hb); have n2_ := Aside0.mk (Kd.R_lower ho0 (below_size (by repeat (first | (with_reducible first | exact HB.out | apply below_alloc | apply pw_below_drewN | apply below_drew1) | exact HB.out)))); have n3_ := Aside0.mk (below_step (by repeat (first | (with_reducible first | exact HB.out | apply below_alloc | apply pw_below_drewN | apply below_drew1) | exact HB.out)) hb); clear HO135; clear HO138; clear HB; have HO135 := n0_; have HO138 := n1_; have HO142 := n2_; have HB := n3_; clear n0_ n1_ n2_ n3_; (try clear hb); (try clear hb2); (try clear hk); (try clear hi); (try clear ho0); obtain ⟨Ao45, co45, eo45⟩ := Kd.R_slice HO142.out; subst eo45) | (go_at_call 19; (refine (watch_Back.calls _ _ ([] : List (S29)) t143 _ ?side1 ?side2 A27.out).mono ?_); (case side1 => exact Kd.C_nil _ _); (case side2 => exact Nat.le_refl _); rintro e w46 ⟨v144, rfl, ho0, hb⟩; have n0_ := Aside0.mk (Kd.R_below (by (with_reducible repeat (first | apply Kd.R_alloc | apply Kd.R_drewN | apply Kd.R_drew)); exact HO135.out) hb); have n1_ := Aside0.mk (Kd.R_below (by (with_reducible repeat (first | apply Kd.R_alloc | apply Kd.R_drewN | apply Kd.R_drew)); exact HO138.out) hb); have n2_ := Aside0.mk (Kd.R_below (by (with_reducible repeat (first | apply Kd.R_alloc | apply Kd.R_drewN | apply Kd.R_drew)); exact HO142.out) hb); have n3_ := Aside0.mk (Kd.R_lower ho0 (below_size (by repeat (first | (with_reducible first | exact HB.out | apply below_alloc | apply pw_below_drewN | apply below_drew1) | exact HB.out)))); have n4_ := Aside0.mk (below_step (by repeat (first | (with_reducible first | exact HB.out | apply below_alloc | apply pw_below_drewN | apply below_drew1) | exact HB.out)) hb); clear HO135; clear HO138; clear HO142; clear HB; have HO135 := n0_; have HO138 := n1_; have HO142 := n2_; have HO145 := n3_; have HB := n4_; clear n0_ n1_ n2_ n3_ n4_; (try clear hb); (try clear hb2); (try clear hk); (try clear hi); (try clear ho0); obtain ⟨Ao47, co47, eo47⟩ := Kd.R_slice HO145.out; subst eo47))
                go_ret
                exact ⟨by first | rfl | (simp [errW_none, errW_some] <;> rfl) | (simp [*, errW_none, errW_some] <;> rfl), by repeat (first | (with_reducible first | exact HB.out | apply below_alloc | apply pw_below_drewN | apply below_drew1) | exact HB.out)⟩
            · rw [if_neg c26] at H
              have c26b0 : ((t140.length : Int) == 0) = false := beq_eq_false_iff_ne.mpr c26
              have c26b1 : ((t140.length : Int) != 0) = true := bne_iff_ne.mpr c26
              have c26b2 : ¬ (t140 = []) := fun h_ => c26 (by rw [h_]; rfl)
              obtain rfl := Option.some.inj H
              go_wp2_with (first | ((with_reducible refine gate_callee (f := 18) rfl ?_); refine goesL_ (some 31) rfl rfl Try.func18 (by kernel_rfl) rfl #[.slice A0 l0.length c0, .int .i64 a1] rfl (by (try simp only [List.map_toArray, List.map_cons, List.map_nil]); first | done | rfl | (simp only [List.length_drop, List.length_take]; rfl)) ?_; (with_reducible refine (watch_At.calls _ _ l0 a1 t133 _ ?side1 ?side2 A21.out).mono ?_); (case side1 => repeat (first | exact (Kd.C_below HR0.out HB.out) | (with_reducible refine Kd.C_alloc ?_ _) | (with_reducible refine Kd.C_drewN ?_ _) | (with_reducible refine Kd.C_drew ?_))); (case side2 => exact HC0.out); rintro e w48 ⟨v134, rfl, ho0, hb⟩; refine ⟨_, rfl, ?_⟩; have n0_ := Aside0.mk (Kd.R_lower ho0 (below_size (by repeat (first | (with_reducible first | exact HB.out | apply below_alloc | apply pw_below_drewN | apply below_drew1) | exact HB.out)))); have n1_ := Aside0.mk (below_step (by repeat (first | (with_reducible first | exact HB.out | apply below_alloc | apply pw_below_drewN | apply below_drew1) | exact HB.out)) hb); clear HB; have HO135 := n0_; have HB := n1_; clear n0_ n1_; (try clear hb); (try clear hb2); (try clear hk); (try clear hi); (try clear ho0); obtain ⟨Ao49, co49, eo49⟩ := Kd.R_slice HO135.out; subst eo49) | ((with_reducible refine gate_callee (f := 10) rfl ?_); refine goesL_ (some 33) rfl rfl Try.func10 (by kernel_rfl) rfl #[.slice Ao49 t133.length co49, .slice none 0 0] rfl (by (try simp only [List.map_toArray, List.map_cons, List.map_nil]); first | done | rfl | (simp only [List.length_drop, List.length_take]; rfl)) ?_; (refine (watch_Play.calls _ _ t133 _ _ ([] : List (S29)) t136 _ ?side1 ?side2 ?side3 ?side4 A22.out).mono ?_); (case side1 => repeat (first | exact (Kd.R_reads' HO135.out).2.2 | (with_reducible refine Kd.C_alloc ?_ _) | (with_reducible refine Kd.C_drewN ?_ _) | (with_reducible refine Kd.C_drew ?_))); (case side2 => exact (Kd.R_reads' HO135.out).2.1); (case side3 => exact Kd.C_nil _ _); (case side4 => exact Nat.le_refl _); rintro e w50 ⟨v137, rfl, ho0, hb⟩; refine ⟨_, rfl, ?_⟩; have n0_ := Aside0.mk (Kd.R_elder' (by (with_reducible repeat (first | apply Kd.R_alloc | apply Kd.R_drewN | apply Kd.R_drew)); exact HO135.out) (Kd.R_base ho0) hb); have n1_ := Aside0.mk (Kd.R_lower (Kd.R_new' ho0 (Kd.R_lt (by (with_reducible repeat (first | apply Kd.R_alloc | apply Kd.R_drewN | apply Kd.R_drew)); exact HO135.out))) (below_size (by repeat (first | (with_reducible first | exact HB.out | apply below_alloc | apply pw_below_drewN | apply below_drew1) | exact HB.out)))); have n2_ := Aside0.mk (below_step (by repeat (first | (with_reducible first | exact HB.out | apply below_alloc | apply pw_below_drewN | apply below_drew1) | exact HB.out)) hb); clear HO135; clear HB; have HO135 := n0_; have HO138 := n1_; have HB := n2_; clear n0_ n1_ n2_; (try clear hb); (try clear hb2); (try clear hk); (try clear hi); (try clear ho0); obtain ⟨Ao51, co51, eo51⟩ := Kd.R_slice HO138.out; subst eo51) | ((with_reducible refine gate_callee (f := 9) rfl ?_); refine goesL_ (some 35) rfl rfl Try.func9 (by kernel_rfl) rfl #[.slice Ao51 t136.length co51, .slice Ao49 t133.length co49] rfl (by (try simp only [List.map_toArray, List.map_cons, List.map_nil]); first | done | rfl | (simp only [List.length_drop, List.length_take]; rfl)) ?_; (with_reducible refine (porterlaw22_tuples.calls kj5 _ _ t136 _ _ t133 true _ ?side1 ?side2 ?side3 ?side4 A23.out).mono ?_); (case side1 => repeat (first | exact (Kd.R_reads' HO138.out).2.2 | (with_reducible refine Kd.C_alloc ?_ _) | (with_reducible refine Kd.C_drewN ?_ _) | (with_reducible refine Kd.C_drew ?_))); (case side2 => exact (Kd.R_reads' HO138.out).2.1); (case side3 => repeat (first | exact (Kd.R_reads' HO135.out).2.2 | (with_reducible refine Kd.C_alloc ?_ _) | (with_reducible refine Kd.C_drewN ?_ _) | (with_reducible refine Kd.C_drew ?_))); (case side4 => exact (Kd.R_reads' HO135.out).2.1); rintro e w' ⟨rfl, ⟨nd, rfl⟩⟩; refine ⟨_, rfl, ?_⟩) | (go_at_call 16; (with_reducible refine (watch_Net.calls _ _ t133 _ _ t133 t140 _ ?side1 ?side2 ?side3 ?side4 A25.out).mono ?_); (case side1 => repeat (first | exact (Kd.R_reads' HO135.out).2.2 | (with_reducible refine Kd.C_alloc ?_ _) | (with_reducible refine Kd.C_drewN ?_ _) | (with_reducible refine Kd.C_drew ?_))); (case side2 => exact (Kd.R_reads' HO135.out).2.1); (case side3 => repeat (first | exact (Kd.R_reads' HO135.out).2.2 | (with_reducible refine Kd.C_alloc ?_ _) | (with_reducible refine Kd.C_drewN ?_ _) | (with_reducible refine Kd.C_drew ?_))); (case side4 => exact (Kd.R_reads' HO135.out).2.1); rintro e w52 ⟨v141, rfl, ho0, hb⟩; have n0_ := Aside0.mk (Kd.R_below (by (with_reducible repeat (first | apply Kd.R_alloc | apply Kd.R_drewN | apply Kd.R_drew)); exact HO135.out) hb); have n1_ := Aside0.mk (Kd.R_below (by (with_reducible repeat (first | apply Kd.R_alloc | apply Kd.R_drewN | apply Kd.R_drew)); exact HO138.out) hb); have n2_ := Aside0.mk (Kd.R_lower ho0 (below_size (by repeat (first | (with_reducible first | exact HB.out | apply below_alloc | apply pw_below_drewN | apply below_drew1) | exact HB.out)))); have n3_ := Aside0.mk (below_step (by repeat (first | (with_reducible first | exact HB.out | apply below_alloc | apply pw_below_drewN | apply below_drew1) | exact HB.out)) hb); clear HO135; clear HO138; clear HB; have HO135 := n0_; have HO138 := n1_; have HO142 := n2_; have HB := n3_; clear n0_ n1_ n2_ n3_; (try clear hb); (try clear hb2); (try clear hk); (try clear hi); (try clear ho0); obtain ⟨Ao53, co53, eo53⟩ := Kd.R_slice HO142.out; subst eo53))
              go_ret
              exact ⟨by first | rfl | (simp [errW_none, errW_some] <;> rfl) | (simp [*, errW_none, errW_some] <;> rfl), by repeat (first | (with_reducible first | exact HB.out | apply below_alloc | apply pw_below_drewN | apply below_drew1) | exact HB.out)⟩
          · replace c24 := Bool.eq_false_iff.mpr c24
            subst c24
            have H1 : (some false) = some r := by rw [if_neg (show ¬ (false = true) by decide)] at H; exact H
            clear H
            have H := H1
            clear H1
            obtain rfl := Option.some.inj H
            go_wp2_with (first | ((with_reducible refine gate_callee (f := 18) rfl ?_); refine goesL_ (some 31) rfl rfl Try.func18 (by kernel_rfl) rfl #[.slice A0 l0.length c0, .int .i64 a1] rfl (by (try simp only [List.map_toArray, List.map_cons, List.map_nil]); first | done | rfl | (simp only [List.length_drop, List.length_take]; rfl)) ?_; (with_reducible refine (watch_At.calls _ _ l0 a1 t133 _ ?side1 ?side2 A21.out).mono ?_); (case side1 => repeat (first | exact (Kd.C_below HR0.out HB.out) | (with_reducible refine Kd.C_alloc ?_ _) | (with_reducible refine Kd.C_drewN ?_ _) | (with_reducible refine Kd.C_drew ?_))); (case side2 => exact HC0.out); rintro e w54 ⟨v134, rfl, ho0, hb⟩; refine ⟨_, rfl, ?_⟩; have n0_ := Aside0.mk (Kd.R_lower ho0 (below_size (by repeat (first | (with_reducible first | exact HB.out | apply below_alloc | apply pw_below_drewN | apply below_drew1) | exact HB.out)))); have n1_ := Aside0.mk (below_step (by repeat (first | (with_reducible first | exact HB.out | apply below_alloc | apply pw_below_drewN | apply below_drew1) | exact HB.out)) hb); clear HB; have HO135 := n0_; have HB := n1_; clear n0_ n1_; (try clear hb); (try clear hb2); (try clear hk); (try clear hi); (try clear ho0); obtain ⟨Ao55, co55, eo55⟩ := Kd.R_slice HO135.out; subst eo55) | ((with_reducible refine gate_callee (f := 10) rfl ?_); refine goesL_ (some 33) rfl rfl Try.func10 (by kernel_rfl) rfl #[.slice Ao55 t133.length co55, .slice none 0 0] rfl (by (try simp only [List.map_toArray, List.map_cons, List.map_nil]); first | done | rfl | (simp only [List.length_drop, List.length_take]; rfl)) ?_; (refine (watch_Play.calls _ _ t133 _ _ ([] : List (S29)) t136 _ ?side1 ?side2 ?side3 ?side4 A22.out).mono ?_); (case side1 => repeat (first | exact (Kd.R_reads' HO135.out).2.2 | (with_reducible refine Kd.C_alloc ?_ _) | (with_reducible refine Kd.C_drewN ?_ _) | (with_reducible refine Kd.C_drew ?_))); (case side2 => exact (Kd.R_reads' HO135.out).2.1); (case side3 => exact Kd.C_nil _ _); (case side4 => exact Nat.le_refl _); rintro e w56 ⟨v137, rfl, ho0, hb⟩; refine ⟨_, rfl, ?_⟩; have n0_ := Aside0.mk (Kd.R_elder' (by (with_reducible repeat (first | apply Kd.R_alloc | apply Kd.R_drewN | apply Kd.R_drew)); exact HO135.out) (Kd.R_base ho0) hb); have n1_ := Aside0.mk (Kd.R_lower (Kd.R_new' ho0 (Kd.R_lt (by (with_reducible repeat (first | apply Kd.R_alloc | apply Kd.R_drewN | apply Kd.R_drew)); exact HO135.out))) (below_size (by repeat (first | (with_reducible first | exact HB.out | apply below_alloc | apply pw_below_drewN | apply below_drew1) | exact HB.out)))); have n2_ := Aside0.mk (below_step (by repeat (first | (with_reducible first | exact HB.out | apply below_alloc | apply pw_below_drewN | apply below_drew1) | exact HB.out)) hb); clear HO135; clear HB; have HO135 := n0_; have HO138 := n1_; have HB := n2_; clear n0_ n1_ n2_; (try clear hb); (try clear hb2); (try clear hk); (try clear hi); (try clear ho0); obtain ⟨Ao57, co57, eo57⟩ := Kd.R_slice HO138.out; subst eo57) | ((with_reducible refine gate_callee (f := 9) rfl ?_); refine goesL_ (some 35) rfl rfl Try.func9 (by kernel_rfl) rfl #[.slice Ao57 t136.length co57, .slice Ao55 t133.length co55] rfl (by (try simp only [List.map_toArray, List.map_cons, List.map_nil]); first | done | rfl | (simp only [List.length_drop, List.length_take]; rfl)) ?_; (with_reducible refine (porterlaw22_tuples.calls kj5 _ _ t136 _ _ t133 false _ ?side1 ?side2 ?side3 ?side4 A23.out).mono ?_); (case side1 => repeat (first | exact (Kd.R_reads' HO138.out).2.2 | (with_reducible refine Kd.C_alloc ?_ _) | (with_reducible refine Kd.C_drewN ?_ _) | (with_reducible refine Kd.C_drew ?_))); (case side2 => exact (Kd.R_reads' HO138.out).2.1); (case side3 => repeat (first | exact (Kd.R_reads' HO135.out).2.2 | (with_reducible refine Kd.C_alloc ?_ _) | (with_reducible refine Kd.C_drewN ?_ _) | (with_reducible refine Kd.C_drew ?_))); (case side4 => exact (Kd.R_reads' HO135.out).2.1); rintro e w' ⟨rfl, ⟨nd, rfl⟩⟩; refine ⟨_, rfl, ?_⟩))
            go_ret
            exact ⟨by first | rfl | (simp [errW_none, errW_some] <;> rfl) | (simp [*, errW_none, errW_some] <;> rfl), by repeat (first | (with_reducible first | exact HB.out | apply below_alloc | apply pw_below_drewN | apply below_drew1) | exact HB.out)⟩
  · replace c5 := Bool.eq_false_iff.mpr c5
    subst c5
    have H1 : (some false) = some r := by rw [if_neg (show ¬ (false = true) by decide)] at H; exact H
    clear H
    have H := H1
    clear H1
    obtain rfl := Option.some.inj H
    go_enter Try.func5, Try.ntmps5
    go_wp2_with (first | ((with_reducible refine gate_callee (f := 6) rfl ?_); refine goesL_ (some 8) rfl rfl Try.func6 (by kernel_rfl) rfl #[] rfl (by (try simp only [List.map_toArray, List.map_cons, List.map_nil]); first | done | rfl | (simp only [List.length_drop, List.length_take]; rfl)) ?_; (with_reducible refine (porterlaw22_awake.calls  false _ A4.out).mono ?_); rintro e w58 ⟨rfl, hb⟩; refine ⟨_, rfl, ?_⟩; have n0_ := Aside0.mk (below_step (by repeat (first | (with_reducible first | exact HB.out | apply below_alloc | apply pw_below_drewN | apply below_drew1) | exact HB.out)) hb); clear HB; have HB := n0_; clear n0_; (try clear hb); (try clear hb2); (try clear hk); (try clear hi)))
    go_ret
    exact ⟨by first | rfl | (simp [errW_none, errW_some] <;> rfl) | (simp [*, errW_none, errW_some] <;> rfl), by repeat (first | (with_reducible first | exact HB.out | apply below_alloc | apply pw_below_drewN | apply below_drew1) | exact HB.out)⟩

/-! ### porterref07_Same: function 11 -/
def porterref07_Same.l0 : Nat → List (S51) → List (S51) → Int → Option (Bool)
  | 0, _, _, _ => none
  | k + 1, x0, x1, x5 => if x5 < (x0.length : Int) then (if 0 ≤ x5 then (if x5 < (x1.length : Int) then (if ((!((((rd_T51 x0 x5).f0.f0).toList) == (((rd_T51 x1 x5).f0.f0).toList)) || (!((((rd_T51 x0 x5).f0.f1).toList) == (((rd_T51 x1 x5).f0.f1).toList)) || (!((((rd_T51 x0 x5).f0.f2).toList) == (((rd_T51 x1 x5).f0.f2).toList))))) || (!(((rd_T51 x0 x5).f1) == ((rd_T51 x1 x5).f1)) || (!(((rd_T51 x0 x5).f2) == ((rd_T51 x1 x5).f2))))) = true then (some false) else (porterref07_Same.l0 k x0 x1 (wrap64 (x5 + 1)))) else (none)) else (none)) else (some true)
def porterref07_Same.f (k : Nat) (l0 : List (S51)) (l1 : List (S51)) : Option (Bool) := if (l0.length : Int) = (l1.length : Int) then (porterref07_Same.l0 k l0 l1 0) else (some false)
theorem porterref07_Same.mono_l : ∀ k, (∀ y0 y1 y2, LeO (porterref07_Same.l0 k y0 y1 y2) (porterref07_Same.l0 (k + 1) y0 y1 y2))
  | 0 => fun _ _ _ r h => by simp [porterref07_Same.l0] at h
  | k + 1 => by
    have ih0 := porterref07_Same.mono_l k
    · intro y0 y1 y2
      unfold porterref07_Same.l0
      repeat' first
      | (with_reducible exact ih0 _ _ _)
      | (with_reducible exact LeO.refl _)
      | (with_reducible exact LeO.none _)
      | (with_reducible refine LeO.ite ?_ ?_)
      | (with_reducible refine LeO.bind ?_ (fun _ => ?_))
      | exact ih0 _ _ _
      | exact LeO.none _
      | refine LeO.ite ?_ ?_
      | refine LeO.bind ?_ (fun _ => ?_)
theorem porterref07_Same.mono : ∀ a0 a1 k, LeO (porterref07_Same.f k a0 a1) (porterref07_Same.f (k + 1) a0 a1) := by
  intro a0 a1 k
  have ih0 := porterref07_Same.mono_l k
  unfold porterref07_Same.f
  repeat' first
      | (with_reducible exact ih0 _ _ _)
      | (with_reducible exact LeO.refl _)
      | (with_reducible exact LeO.none _)
      | (with_reducible refine LeO.ite ?_ ?_)
      | (with_reducible refine LeO.bind ?_ (fun _ => ?_))
      | exact ih0 _ _ _
      | exact LeO.none _
      | refine LeO.ite ?_ ?_
      | refine LeO.bind ?_ (fun _ => ?_)
set_option maxHeartbeats 8000000 in
set_option maxRecDepth 100000 in
theorem porterref07_Same.calls (k : Nat) (A0 : Option Addr) (c0 : Nat) (l0 : List (S51)) (A1 : Option Addr) (c1 : Nat) (l1 : List (S51)) (r : Bool) (w : World) (hr0 : Kd.C k51 w A0 l0.length l0) (hc0 : l0.length ≤ c0) (hr1 : Kd.C k51 w A1 l1.length l1) (hc1 : l1.length ≤ c1) (h : porterref07_Same.f k l0 l1 = some r) :
    Calls Try.prog 11 #[.slice A0 l0.length c0, .slice A1 l1.length c1] w fun e w' => e = .returned (.bool r) ∧ Drawn0 w w' := by
  have hu51 := Try.underlying51
  have HR0 := Aside0.mk hr0
  have HC0 := Aside0.mk hc0
  clear hr0 hc0
  have HR1 := Aside0.mk hr1
  have HC1 := Aside0.mk hc1
  clear hr1 hc1
  have H : (if (l0.length : Int) = (l1.length : Int) then (porterref07_Same.l0 k l0 l1 0) else (some false)) = some r := h
  clear h
  by_cases c3 : (l0.length : Int) = (l1.length : Int)
  · rw [if_pos c3] at H
    have c3b0 : ((l0.length : Int) == (l1.length : Int)) = true := beq_iff_eq.mpr c3
    have c3b1 : ((l0.length : Int) != (l1.length : Int)) = false := bne_eq_false_iff_eq.mpr c3
    have c3b2 : (l0.length == l1.length) = true := by first | simpa using c3 | (simp at c3 ⊢; omega)
    clear c3
    have H' := Aside0.mk H
    clear H
    go_enter Try.func11, Try.ntmps11
    go_wp2
    repeat (go_quiet (fail); try go_wp2)
    go_loopg [5] k (fun kq v5 w' => ∃ (x5_1 : Int), v5 = .int .i64 x5_1 ∧ Aside0 (porterref07_Same.l0 kq l0 l1 x5_1 = some r) ∧ Aside0 (kq ≤ k) ∧ Drawn0 w w')
    case atStart => exact ⟨(0), (by first | rfl | (simp; done) | (simp [*]; done)), H', ⟨Nat.le_refl _⟩, by repeat (first | exact Drawn0.refl _ | apply Drawn0.step)⟩
    case round =>
      clear H'
      try clear c1
      try clear p2
      try clear c3
      try clear c3b0
      try clear c3b1
      try clear c3b2
      obtain ⟨x5_1, rfl, HA, HK1, ⟨m1, rfl⟩⟩ := hrel
      cases gk with
      | zero => exact absurd HA.out (by simp [porterref07_Same.l0])
      | succ k1 =>
        have H := HA.out
        clear HA
        simp only [porterref07_Same.l0] at H
        by_cases c4 : x5_1 < (l0.length : Int)
        · rw [if_pos c4] at H
          have c4b0 : decide (x5_1 < (l0.length : Int)) = true := decide_eq_true c4
          clear c4
          by_cases c5 : 0 ≤ x5_1
          · rw [if_pos c5] at H
            have c5b0 : decide (0 ≤ x5_1) = true := decide_eq_true c5
            clear c5
            by_cases c6 : x5_1 < (l1.length : Int)
            · rw [if_pos c6] at H
              have c6b0 : decide (x5_1 < (l1.length : Int)) = true := decide_eq_true c6
              clear c6
              by_cases c7 : ((!((((rd_T51 l0 x5_1).f0.f0).toList) == (((rd_T51 l1 x5_1).f0.f0).toList)) || (!((((rd_T51 l0 x5_1).f0.f1).toList) == (((rd_T51 l1 x5_1).f0.f1).toList)) || (!((((rd_T51 l0 x5_1).f0.f2).toList) == (((rd_T51 l1 x5_1).f0.f2).toList))))) || (!(((rd_T51 l0 x5_1).f1) == ((rd_T51 l1 x5_1).f1)) || (!(((rd_T51 l0 x5_1).f2) == ((rd_T51 l1 x5_1).f2))))) = true
              · rw [if_pos c7] at H
                have c7b0 : ((!((((rd_T51 l0 x5_1).f0.f0).toList) == (((rd_T51 l1 x5_1).f0.f0).toList)) || (!((((rd_T51 l0 x5_1).f0.f1).toList) == (((rd_T51 l1 x5_1).f0.f1).toList)) || (!((((rd_T51 l0 x5_1).f0.f2).toList) == (((rd_T51 l1 x5_1).f0.f2).toList))))) || (!(((rd_T51 l0 x5_1).f1) == ((rd_T51 l1 x5_1).f1)) || (!(((rd_T51 l0 x5_1).f2) == ((rd_T51 l1 x5_1).f2))))) = true := c7
                clear c7
                obtain rfl := Option.some.inj H
                have p149 : 0 ≤ (x5_1 : Int) := of_decide_eq_true (by first | (with_reducible assumption) | assumption)
                have q149 : x5_1 < (l0.length : Int) := of_decide_eq_true (by first | (with_reducible assumption) | assumption)
                obtain ⟨ad149, e149, hx149_0, hx149_1, hx149_2, hx149_3, hx149_4⟩ := at_T51 HR0.out x5_1 p149 q149
                cases e149
                replace p149 := eq_true p149
                replace q149 := eq_true q149
                have p150 : 0 ≤ (x5_1 : Int) := of_decide_eq_true (by first | (with_reducible assumption) | assumption)
                have q150 : x5_1 < (l1.length : Int) := of_decide_eq_true (by first | (with_reducible assumption) | assumption)
                obtain ⟨ad150, e150, hx150_0, hx150_1, hx150_2, hx150_3, hx150_4⟩ := at_T51 HR1.out x5_1 p150 q150
                cases e150
                replace p150 := eq_true p150
                replace q150 := eq_true q150
                go_wp2
                repeat (go_quiet (fail); try go_wp2)
                go_ret
                exact ⟨by first | rfl | (simp; done) | (simp [*]; done), by repeat (first | exact Drawn0.refl _ | apply Drawn0.step)⟩
              · rw [if_neg c7] at H
                have c7b0 : ((!((((rd_T51 l0 x5_1).f0.f0).toList) == (((rd_T51 l1 x5_1).f0.f0).toList)) || (!((((rd_T51 l0 x5_1).f0.f1).toList) == (((rd_T51 l1 x5_1).f0.f1).toList)) || (!((((rd_T51 l0 x5_1).f0.f2).toList) == (((rd_T51 l1 x5_1).f0.f2).toList))))) || (!(((rd_T51 l0 x5_1).f1) == ((rd_T51 l1 x5_1).f1)) || (!(((rd_T51 l0 x5_1).f2) == ((rd_T51 l1 x5_1).f2))))) = false := by simpa using c7
                clear c7
                have H' := Aside0.mk H
                clear H
                have p149 : 0 ≤ (x5_1 : Int) := of_decide_eq_true (by first | (with_reducible assumption) | assumption)
                have q149 : x5_1 < (l0.length : Int) := of_decide_eq_true (by first | (with_reducible assumption) | assumption)
                obtain ⟨ad149, e149, hx149_0, hx149_1, hx149_2, hx149_3, hx149_4⟩ := at_T51 HR0.out x5_1 p149 q149
                cases e149
                replace p149 := eq_true p149
                replace q149 := eq_true q149
                have p150 : 0 ≤ (x5_1 : Int) := of_decide_eq_true (by first | (with_reducible assumption) | assumption)
                have q150 : x5_1 < (l1.length : Int) := of_decide_eq_true (by first | (with_reducible assumption) | assumption)
                obtain ⟨ad150, e150, hx150_0, hx150_1, hx150_2, hx150_3, hx150_4⟩ := at_T51 HR1.out x5_1 p150 q150
                cases e150
                replace p150 := eq_true p150
                replace q150 := eq_true q150
                go_wp2
                repeat (go_quiet (fail); try go_wp2)
                go_roundg k1
                case measure => have := HK1.out; omega
                case rel => exact ⟨(wrap64 (x5_1 + 1)), (by first | rfl | (simp; done) | (simp [*]; done)), H', ⟨by have := HK1.out; omega⟩, by repeat (first | exact Drawn0.refl _ | apply Drawn0.step)⟩
            · rw [if_neg c6] at H
              exact absurd H (by simp)
          · rw [if_neg c5] at H
            exact absurd H (by simp)
        · rw [if_neg c4] at H
          have c4b0 : decide (x5_1 < (l0.length : Int)) = false := decide_eq_false c4
          clear c4
          obtain rfl := Option.some.inj H
          go_wp2
          repeat (go_quiet (fail); try go_wp2)
          go_ret
          exact ⟨by first | rfl | (simp; done) | (simp [*]; done), by repeat (first | exact Drawn0.refl _ | apply Drawn0.step)⟩
  · rw [if_neg c3] at H
    have c3b0 : ((l0.length : Int) == (l1.length : Int)) = false := beq_eq_false_iff_ne.mpr c3
    have c3b1 : ((l0.length : Int) != (l1.length : Int)) = true := bne_iff_ne.mpr c3
    have c3b2 : (l0.length == l1.length) = false := by first | simpa using c3 | (simp at c3 ⊢; omega)
    obtain rfl := Option.some.inj H
    go_enter Try.func11, Try.ntmps11
    go_wp2
    repeat (go_quiet (fail); try go_wp2)
    go_ret
    exact ⟨by first | rfl | (simp; done) | (simp [*]; done), by repeat (first | exact Drawn0.refl _ | apply Drawn0.step)⟩

/-! ### porterref05_Less: function 45 -/
def porterref05_Less.f (a0_0 : ByteArray) (a0_1 : ByteArray) (a0_2 : ByteArray) (a1_0 : ByteArray) (a1_1 : ByteArray) (a1_2 : ByteArray) : Option (Bool) := if a0_0.toList = a1_0.toList then (if a0_1.toList = a1_1.toList then (some (Op.bytesLess a0_2.toList a1_2.toList)) else (some (Op.bytesLess a0_1.toList a1_1.toList))) else (some (Op.bytesLess a0_0.toList a1_0.toList))
set_option maxHeartbeats 8000000 in
set_option maxRecDepth 100000 in
theorem porterref05_Less.calls (a0_0 : ByteArray) (a0_1 : ByteArray) (a0_2 : ByteArray) (a1_0 : ByteArray) (a1_1 : ByteArray) (a1_2 : ByteArray) (r : Bool) (w : World) (h : porterref05_Less.f a0_0 a0_1 a0_2 a1_0 a1_1 a1_2 = some r) :
    Calls Try.prog 45 #[.agg #[.string a0_0, .string a0_1, .string a0_2], .agg #[.string a1_0, .string a1_1, .string a1_2]] w fun e w' => e = .returned (.bool r) ∧ Below w.heap.size w w' := by
  have hu25 := Try.underlying25
  have HB := Aside0.mk (Below.refl w.heap.size w)
  have H : (if a0_0.toList = a1_0.toList then (if a0_1.toList = a1_1.toList then (some (Op.bytesLess a0_2.toList a1_2.toList)) else (some (Op.bytesLess a0_1.toList a1_1.toList))) else (some (Op.bytesLess a0_0.toList a1_0.toList))) = some r := h
  clear h
  by_cases c3 : a0_0.toList = a1_0.toList
  · rw [if_pos c3] at H
    have c3b0 : (a0_0.toList == a1_0.toList) = true := beq_iff_eq.mpr c3
    have c3b1 : (a0_0.toList != a1_0.toList) = false := bne_eq_false_iff_eq.mpr c3
    clear c3
    by_cases c4 : a0_1.toList = a1_1.toList
    · rw [if_pos c4] at H
      have c4b0 : (a0_1.toList == a1_1.toList) = true := beq_iff_eq.mpr c4
      have c4b1 : (a0_1.toList != a1_1.toList) = false := bne_eq_false_iff_eq.mpr c4
      clear c4
      obtain rfl := Option.some.inj H
      go_enter Try.func45, Try.ntmps45
      go_wp2_with (first | ((with_reducible refine gate_dst (N := 2) rfl ?_); refine box_event ?hg (N := 2) ?hd (cs := #[.string a0_0, .string a0_1, .string a0_2]) (t := 25) ?hr ?_; (case hd => rfl); (case hg => rfl); (case hr => first | (go_simp; done) | (go_simp; rfl)); intro gb151 hg w5 hbox hb; have n0_ := Aside0.mk (below_step (by repeat (first | (with_reducible first | exact HB.out | apply below_alloc | apply pw_below_drewN | apply below_drew1) | exact HB.out)) hb); have n1_ := Aside0.mk (hbox); have n2_ := Aside0.mk ((by rw [hg]; exact (below_size (by repeat (first | (with_reducible first | exact HB.out | apply below_alloc | apply pw_below_drewN | apply below_drew1) | exact HB.out))) : w.heap.size ≤ gb151)); have n3_ := Aside0.mk ((by rw [hg]; exact (below_size (by repeat (first | (with_reducible first | exact HB.out | apply below_alloc | apply pw_below_drewN | apply below_drew1) | exact HB.out))) : w.heap.size ≤ gb151)); clear HB; have HB := n0_; have BK151 := n1_; have GW151 := n2_; have GE151 := n3_; clear n0_ n1_ n2_ n3_; clear hb hbox hg) | ((with_reducible refine gate_dst (N := 3) rfl ?_); refine box_event ?hg (N := 3) ?hd (cs := #[.string a1_0, .string a1_1, .string a1_2]) (t := 25) ?hr ?_; (case hd => rfl); (case hg => rfl); (case hr => first | (go_simp; done) | (go_simp; rfl)); intro gb152 hg w6 hbox hb; have n0_ := Aside0.mk (blk_below (g := gb151) (o := .cells #[.string a0_0, .string a0_1, .string a0_2] 25 (0, 0)) (by (with_reducible repeat (first | refine blk_drewN ?_ _ | refine blk_drew ?_ | refine blk_alloc ?_ _)); exact BK151.out) hb); have n1_ := Aside0.mk (below_step (by repeat (first | (with_reducible first | exact HB.out | apply below_alloc | apply pw_below_drewN | apply below_drew1 | refine below_set ?_ GE151.out) | exact HB.out)) hb); have n2_ := Aside0.mk (hbox); have n3_ := Aside0.mk ((by rw [hg]; exact (below_size (by repeat (first | (with_reducible first | exact HB.out | apply below_alloc | apply pw_below_drewN | apply below_drew1 | refine below_set ?_ GE151.out) | exact HB.out))) : w.heap.size ≤ gb152)); have n4_ := Aside0.mk ((by rw [hg]; exact (below_size (by repeat (first | (with_reducible first | exact HB.out | apply below_alloc | apply pw_below_drewN | apply below_drew1 | refine below_set ?_ GE151.out) | exact HB.out))) : w.heap.size ≤ gb152)); have n5_ := Aside0.mk ((by rw [hg]; exact Nat.ne_of_lt (blk_lt (g := gb151) (o := .cells #[.string a0_0, .string a0_1, .string a0_2] 25 (0, 0)) (by (with_reducible repeat (first | refine blk_drewN ?_ _ | refine blk_drew ?_ | refine blk_alloc ?_ _)); exact BK151.out)) : gb151 ≠ gb152)); have n6_ := Aside0.mk ((by rw [hg]; exact Nat.ne_of_gt (blk_lt (g := gb151) (o := .cells #[.string a0_0, .string a0_1, .string a0_2] 25 (0, 0)) (by (with_reducible repeat (first | refine blk_drewN ?_ _ | refine blk_drew ?_ | refine blk_alloc ?_ _)); exact BK151.out)) : gb152 ≠ gb151)); clear BK151; clear HB; have BK151 := n0_; have HB := n1_; have BK152 := n2_; have GW152 := n3_; have GE152 := n4_; have NB151_152 := n5_; have NB152_151 := n6_; clear n0_ n1_ n2_ n3_ n4_ n5_ n6_; clear hb hbox hg; have hnb7 := NB151_152.out; have hnc7 := NB152_151.out; have hcz8_0 : w6.cell? ⟨gb151, 0, none⟩ = some (.string a0_0) := (blk_cell BK151.out 0).trans rfl; have hcz8_1 : w6.cell? ⟨gb151, 1, none⟩ = some (.string a0_1) := (blk_cell BK151.out 1).trans rfl; have hcz8_2 : w6.cell? ⟨gb151, 2, none⟩ = some (.string a0_2) := (blk_cell BK151.out 2).trans rfl; have hfz8_0 := blk_frozen BK151.out 0; have hfz8_1 := blk_frozen BK151.out 1; have hfz8_2 := blk_frozen BK151.out 2; have hcz9_0 : w6.cell? ⟨gb152, 0, none⟩ = some (.string a1_0) := (blk_cell BK152.out 0).trans rfl; have hcz9_1 : w6.cell? ⟨gb152, 1, none⟩ = some (.string a1_1) := (blk_cell BK152.out 1).trans rfl; have hcz9_2 : w6.cell? ⟨gb152, 2, none⟩ = some (.string a1_2) := (blk_cell BK152.out 2).trans rfl; have hfz9_0 := blk_frozen BK152.out 0; have hfz9_1 := blk_frozen BK152.out 1; have hfz9_2 := blk_frozen BK152.out 2))
      go_ret
      exact ⟨by first | rfl | (simp [errW_none, errW_some] <;> rfl) | (simp [*, errW_none, errW_some] <;> rfl), by repeat (first | (with_reducible first | exact HB.out | apply below_alloc | apply pw_below_drewN | apply below_drew1 | refine below_set ?_ GE151.out | refine below_set ?_ GE152.out) | exact HB.out)⟩
    · rw [if_neg c4] at H
      have c4b0 : (a0_1.toList == a1_1.toList) = false := beq_eq_false_iff_ne.mpr c4
      have c4b1 : (a0_1.toList != a1_1.toList) = true := bne_iff_ne.mpr c4
      obtain rfl := Option.some.inj H
      go_enter Try.func45, Try.ntmps45
      go_wp2_with (first | ((with_reducible refine gate_dst (N := 2) rfl ?_); refine box_event ?hg (N := 2) ?hd (cs := #[.string a0_0, .string a0_1, .string a0_2]) (t := 25) ?hr ?_; (case hd => rfl); (case hg => rfl); (case hr => first | (go_simp; done) | (go_simp; rfl)); intro gb151 hg w10 hbox hb; have n0_ := Aside0.mk (below_step (by repeat (first | (with_reducible first | exact HB.out | apply below_alloc | apply pw_below_drewN | apply below_drew1) | exact HB.out)) hb); have n1_ := Aside0.mk (hbox); have n2_ := Aside0.mk ((by rw [hg]; exact (below_size (by repeat (first | (with_reducible first | exact HB.out | apply below_alloc | apply pw_below_drewN | apply below_drew1) | exact HB.out))) : w.heap.size ≤ gb151)); have n3_ := Aside0.mk ((by rw [hg]; exact (below_size (by repeat (first | (with_reducible first | exact HB.out | apply below_alloc | apply pw_below_drewN | apply below_drew1) | exact HB.out))) : w.heap.size ≤ gb151)); clear HB; have HB := n0_; have BK151 := n1_; have GW151 := n2_; have GE151 := n3_; clear n0_ n1_ n2_ n3_; clear hb hbox hg) | ((with_reducible refine gate_dst (N := 3) rfl ?_); refine box_event ?hg (N := 3) ?hd (cs := #[.string a1_0, .string a1_1, .string a1_2]) (t := 25) ?hr ?_; (case hd => rfl); (case hg => rfl); (case hr => first | (go_simp; done) | (go_simp; rfl)); intro gb152 hg w11 hbox hb; have n0_ := Aside0.mk (blk_below (g := gb151) (o := .cells #[.string a0_0, .string a0_1, .string a0_2] 25 (0, 0)) (by (with_reducible repeat (first | refine blk_drewN ?_ _ | refine blk_drew ?_ | refine blk_alloc ?_ _)); exact BK151.out) hb); have n1_ := Aside0.mk (below_step (by repeat (first | (with_reducible first | exact HB.out | apply below_alloc | apply pw_below_drewN | apply below_drew1 | refine below_set ?_ GE151.out) | exact HB.out)) hb); have n2_ := Aside0.mk (hbox); have n3_ := Aside0.mk ((by rw [hg]; exact (below_size (by repeat (first | (with_reducible first | exact HB.out | apply below_alloc | apply pw_below_drewN | apply below_drew1 | refine below_set ?_ GE151.out) | exact HB.out))) : w.heap.size ≤ gb152)); have n4_ := Aside0.mk ((by rw [hg]; exact (below_size (by repeat (first | (with_reducible first | exact HB.out | apply below_alloc | apply pw_below_drewN | apply below_drew1 | refine below_set ?_ GE151.out) | exact HB.out))) : w.heap.size ≤ gb152)); have n5_ := Aside0.mk ((by rw [hg]; exact Nat.ne_of_lt (blk_lt (g := gb151) (o := .cells #[.string a0_0, .string a0_1, .string a0_2] 25 (0, 0)) (by (with_reducible repeat (first | refine blk_drewN ?_ _ | refine blk_drew ?_ | refine blk_alloc ?_ _)); exact BK151.out)) : gb151 ≠ gb152)); have n6_ := Aside0.mk ((by rw [hg]; exact Nat.ne_of_gt (blk_lt (g := gb151) (o := .cells #[.string a0_0, .string a0_1, .string a0_2] 25 (0, 0)) (by (with_reducible repeat (first | refine blk_drewN ?_ _ | refine blk_drew ?_ | refine blk_alloc ?_ _)); exact BK151.out)) : gb152 ≠ gb151)); clear BK151; clear HB; have BK151 := n0_; have HB := n1_; have BK152 := n2_; have GW152 := n3_; have GE152 := n4_; have NB151_152 := n5_; have NB152_151 := n6_; clear n0_ n1_ n2_ n3_ n4_ n5_ n6_; clear hb hbox hg; have hnb12 := NB151_152.out; have hnc12 := NB152_151.out; have hcz13_0 : w11.cell? ⟨gb151, 0, none⟩ = some (.string a0_0) := (blk_cell BK151.out 0).trans rfl; have hcz13_1 : w11.cell? ⟨gb151, 1, none⟩ = some (.string a0_1) := (blk_cell BK151.out 1).trans rfl; have hcz13_2 : w11.cell? ⟨gb151, 2, none⟩ = some (.string a0_2) := (blk_cell BK151.out 2).trans rfl; have hfz13_0 := blk_frozen BK151.out 0; have hfz13_1 := blk_frozen BK151.out 1; have hfz13_2 := blk_frozen BK151.out 2; have hcz14_0 : w11.cell? ⟨gb152, 0, none⟩ = some (.string a1_0) := (blk_cell BK152.out 0).trans rfl; have hcz14_1 : w11.cell? ⟨gb152, 1, none⟩ = some (.string a1_1) := (blk_cell BK152.out 1).trans rfl; have hcz14_2 : w11.cell? ⟨gb152, 2, none⟩ = some (.string a1_2) := (blk_cell BK152.out 2).trans rfl; have hfz14_0 := blk_frozen BK152.out 0; have hfz14_1 := blk_frozen BK152.out 1; have hfz14_2 := blk_frozen BK152.out 2))
      go_ret
      exact ⟨by first | rfl | (simp [errW_none, errW_some] <;> rfl) | (simp [*, errW_none, errW_some] <;> rfl), by repeat (first | (with_reducible first | exact HB.out | apply below_alloc | apply pw_below_drewN | apply below_drew1 | refine below_set ?_ GE151.out | refine below_set ?_ GE152.out) | exact HB.out)⟩
  · rw [if_neg c3] at H
    have c3b0 : (a0_0.toList == a1_0.toList) = false := beq_eq_false_iff_ne.mpr c3
    have c3b1 : (a0_0.toList != a1_0.toList) = true := bne_iff_ne.mpr c3
    obtain rfl := Option.some.inj H
    go_enter Try.func45, Try.ntmps45
    go_wp2_with (first | ((with_reducible refine gate_dst (N := 2) rfl ?_); refine box_event ?hg (N := 2) ?hd (cs := #[.string a0_0, .string a0_1, .string a0_2]) (t := 25) ?hr ?_; (case hd => rfl); (case hg => rfl); (case hr => first | (go_simp; done) | (go_simp; rfl)); intro gb151 hg w15 hbox hb; have n0_ := Aside0.mk (below_step (by repeat (first | (with_reducible first | exact HB.out | apply below_alloc | apply pw_below_drewN | apply below_drew1) | exact HB.out)) hb); have n1_ := Aside0.mk (hbox); have n2_ := Aside0.mk ((by rw [hg]; exact (below_size (by repeat (first | (with_reducible first | exact HB.out | apply below_alloc | apply pw_below_drewN | apply below_drew1) | exact HB.out))) : w.heap.size ≤ gb151)); have n3_ := Aside0.mk ((by rw [hg]; exact (below_size (by repeat (first | (with_reducible first | exact HB.out | apply below_alloc | apply pw_below_drewN | apply below_drew1) | exact HB.out))) : w.heap.size ≤ gb151)); clear HB; have HB := n0_; have BK151 := n1_; have GW151 := n2_; have GE151 := n3_; clear n0_ n1_ n2_ n3_; clear hb hbox hg) | ((with_reducible refine gate_dst (N := 3) rfl ?_); refine box_event ?hg (N := 3) ?hd (cs := #[.string a1_0, .string a1_1, .string a1_2]) (t := 25) ?hr ?_; (case hd => rfl); (case hg => rfl); (case hr => first | (go_simp; done) | (go_simp; rfl)); intro gb152 hg w16 hbox hb; have n0_ := Aside0.mk (blk_below (g := gb151) (o := .cells #[.string a0_0, .string a0_1, .string a0_2] 25 (0, 0)) (by (with_reducible repeat (first | refine blk_drewN ?_ _ | refine blk_drew ?_ | refine blk_alloc ?_ _)); exact BK151.out) hb); have n1_ := Aside0.mk (below_step (by repeat (first | (with_reducible first | exact HB.out | apply below_alloc | apply pw_below_drewN | apply below_drew1 | refine below_set ?_ GE151.out) | exact HB.out)) hb); have n2_ := Aside0.mk (hbox); have n3_ := Aside0.mk ((by rw [hg]; exact (below_size (by repeat (first | (with_reducible first | exact HB.out | apply below_alloc | apply pw_below_drewN | apply below_drew1 | refine below_set ?_ GE151.out) | exact HB.out))) : w.heap.size ≤ gb152)); have n4_ := Aside0.mk ((by rw [hg]; exact (below_size (by repeat (first | (with_reducible first | exact HB.out | apply below_alloc | apply pw_below_drewN | apply below_drew1 | refine below_set ?_ GE151.out) | exact HB.out))) : w.heap.size ≤ gb152)); have n5_ := Aside0.mk ((by rw [hg]; exact Nat.ne_of_lt (blk_lt (g := gb151) (o := .cells #[.string a0_0, .string a0_1, .string a0_2] 25 (0, 0)) (by (with_reducible repeat (first | refine blk_drewN ?_ _ | refine blk_drew ?_ | refine blk_alloc ?_ _)); exact BK151.out)) : gb151 ≠ gb152)); have n6_ := Aside0.mk ((by rw [hg]; exact Nat.ne_of_gt (blk_lt (g := gb151) (o := .cells #[.string a0_0, .string a0_1, .string a0_2] 25 (0, 0)) (by (with_reducible repeat (first | refine blk_drewN ?_ _ | refine blk_drew ?_ | refine blk_alloc ?_ _)); exact BK151.out)) : gb152 ≠ gb151)); clear BK151; clear HB; have BK151 := n0_; have HB := n1_; have BK152 := n2_; have GW152 := n3_; have GE152 := n4_; have NB151_152 := n5_; have NB152_151 := n6_; clear n0_ n1_ n2_ n3_ n4_ n5_ n6_; clear hb hbox hg; have hnb17 := NB151_152.out; have hnc17 := NB152_151.out; have hcz18_0 : w16.cell? ⟨gb151, 0, none⟩ = some (.string a0_0) := (blk_cell BK151.out 0).trans rfl; have hcz18_1 : w16.cell? ⟨gb151, 1, none⟩ = some (.string a0_1) := (blk_cell BK151.out 1).trans rfl; have hcz18_2 : w16.cell? ⟨gb151, 2, none⟩ = some (.string a0_2) := (blk_cell BK151.out 2).trans rfl; have hfz18_0 := blk_frozen BK151.out 0; have hfz18_1 := blk_frozen BK151.out 1; have hfz18_2 := blk_frozen BK151.out 2; have hcz19_0 : w16.cell? ⟨gb152, 0, none⟩ = some (.string a1_0) := (blk_cell BK152.out 0).trans rfl; have hcz19_1 : w16.cell? ⟨gb152, 1, none⟩ = some (.string a1_1) := (blk_cell BK152.out 1).trans rfl; have hcz19_2 : w16.cell? ⟨gb152, 2, none⟩ = some (.string a1_2) := (blk_cell BK152.out 2).trans rfl; have hfz19_0 := blk_frozen BK152.out 0; have hfz19_1 := blk_frozen BK152.out 1; have hfz19_2 := blk_frozen BK152.out 2))
    go_ret
    exact ⟨by first | rfl | (simp [errW_none, errW_some] <;> rfl) | (simp [*, errW_none, errW_some] <;> rfl), by repeat (first | (with_reducible first | exact HB.out | apply below_alloc | apply pw_below_drewN | apply below_drew1 | refine below_set ?_ GE151.out | refine below_set ?_ GE152.out) | exact HB.out)⟩

end Go.Proofs.Ytgdmdhhihoifkaa.Pr

namespace Go.Proofs.Ytgdmdhhihoifkaa.Pr
open Go.Proofs.Ytgdmdhhihoifkaa Go.Sort Go.RowKit

theorem wrap_step (i : Nat) (h : i < 4294967296) : wrap64 ((i : Int) + 1) = ((i + 1 : Nat) : Int) := by
  unfold wrap64; omega
theorem tuples_self (l : List T) (hl : l.length < 4294967296) : ∀ (d i k : Nat), i + d = l.length → d < k → porterlaw22_tuples.l0 k l l (l.length : Int) (i : Int) = some true
  | 0, i, 0, _, hk => by omega
  | 0, i, k + 1, hi, _ => by
    rw [porterlaw22_tuples.l0, if_neg (by omega)]
  | d + 1, i, 0, _, hk => by omega
  | d + 1, i, k + 1, hi, hk => by
    rw [porterlaw22_tuples.l0, if_pos (by omega), if_pos (by omega), if_pos (by omega), if_pos (by omega), if_neg (by simp), wrap_step i (by omega)]
    exact tuples_self l hl d (i + 1) k (by omega) (by omega)
theorem tuples_f_self (l : List T) (hl : l.length < 4294967296) (k : Nat) (hk : l.length < k) : porterlaw22_tuples.f k l l = some true := by
  unfold porterlaw22_tuples.f
  rw [if_pos rfl]
  exact tuples_self l hl l.length 0 k (by omega) (by omega)

/-! ### what is the same is told so -/
theorem same_self (l : List Ro) (hl : l.length < 4294967296) : ∀ (d i k : Nat), i + d = l.length → d < k → porterref07_Same.l0 k l l (i : Int) = some true
  | 0, i, 0, _, hk => by omega
  | 0, i, k + 1, hi, _ => by
    rw [porterref07_Same.l0, if_neg (by omega)]
  | d + 1, i, 0, _, hk => by omega
  | d + 1, i, k + 1, hi, hk => by
    rw [porterref07_Same.l0, if_pos (by omega), if_pos (by omega), if_pos (by omega), if_neg (by simp), wrap_step i (by omega)]
    exact same_self l hl d (i + 1) k (by omega) (by omega)
theorem same_f_self (l : List Ro) (hl : l.length < 4294967296) (k : Nat) (hk : l.length < k) : porterref07_Same.f k l l = some true := by
  unfold porterref07_Same.f
  rw [if_pos rfl]
  exact same_self l hl l.length 0 k (by omega) (by omega)
end Go.Proofs.Ytgdmdhhihoifkaa.Pr

namespace Go.Proofs.Ytgdmdhhihoifkaa.Pr
open Go.Proofs.Ytgdmdhhihoifkaa Go.Sort

theorem awake_yes : porterlaw22_awake.f = some true := by
  unfold porterlaw22_awake.f porterlaw22_viewer.f
  simp only [Option.bind_some]
  generalize hB1 : (⟨#[100, 111, 99, 58, 97]⟩ : ByteArray) = b1
  generalize hB2 : (⟨#[118, 105, 101, 119, 101, 114]⟩ : ByteArray) = b2
  generalize hB3 : (⟨#[117, 115, 101, 114, 58, 97, 110, 110]⟩ : ByteArray) = b3
  clear hB1 hB2 hB3
  generalize (⟨b1, b2, b3⟩ : T) = t
  have h1 : watch_Changes.f [⟨t, 3, 5⟩] 0 9 = some [⟨3, ⟨false, t⟩⟩, ⟨5, ⟨true, t⟩⟩] := by
    unfold watch_Changes.f
    rw [if_pos (tiny_of (by simp))]
    have e : [(⟨t, 3, 5⟩ : Ro)].flatMap (chOf 0 9) = [⟨3, ⟨false, t⟩⟩, ⟨5, ⟨true, t⟩⟩] := by simp [chOf, chIf]
    rw [e, msort_self swoCh]
    refine List.pairwise_pair.2 ?_
    simp [ltCh, ltOf, cmpCh, lexi, Lib.compareInt]
  have h2 : watch_At.f [⟨t, 3, 5⟩] 4 = some [t] := by
    rw [At_eq _ _ (by simp)]
    unfold atL
    have e : ([(⟨t, 3, 5⟩ : Ro)].filter (thereAt 4)).map (·.f0) = [t] := by simp [thereAt]
    rw [e, msort_self swoT (by simp [SortedL])]
    rfl
  have h3 : watch_Rows.f [⟨3, ⟨false, t⟩⟩, ⟨5, ⟨true, t⟩⟩] = some [⟨t, 3, 5⟩] := by
    unfold watch_Rows.f
    rw [if_pos (tiny_of (by simp))]
    have e : rowsL [⟨3, ⟨false, t⟩⟩, ⟨5, ⟨true, t⟩⟩] = [⟨t, 3, 5⟩] := by simp [rowsL, rowsDo, openAt]
    rw [e, msort_self swoRo (by simp [SortedL])]
  have h4 : watch_Back.f [⟨3, ⟨false, t⟩⟩, ⟨5, ⟨true, t⟩⟩] = some [⟨5, ⟨false, t⟩⟩, ⟨3, ⟨true, t⟩⟩] := by
    unfold watch_Back.f
    rw [if_pos (tiny_of (by simp))]
    simp [flipCh]
  rw [h1]
  simp [h2, h3, h4, rd_T29]
end Go.Proofs.Ytgdmdhhihoifkaa.Pr

namespace Go.Proofs.Ytgdmdhhihoifkaa.Pr
open Go.RowKit Go.Proofs.YtgdmdhhihoifkaaW.PrintWords Go.Proofs.YtgdmdhhihoifkaaW.PrintLast Go.Proofs.YtgdmdhhihoifkaaW.PrintMore
attribute [local go_sem] max2_int min2_int max_two min_two max_three min_three max_four min_four   -- for this text's walks alone
set_option linter.unusedVariables false
set_option linter.unusedSimpArgs false

theorem eqA29 (d : Nat) (w : World) (x0 y0 : Int) (x1 y1 : Bool) (x2 y2 : ByteArray) (x3 y3 : ByteArray) (x4 y4 : ByteArray) :
    (Op.equalIn (d + 4) 29 (.agg #[.int .i64 x0, .bool x1, .string x2, .string x3, .string x4]) (.agg #[.int .i64 y0, .bool y1, .string y2, .string y3, .string y4])).run Try.prog w = .ok (x0 == y0 && ((x1 == y1 && ((x2.toList == y2.toList && (x3.toList == y3.toList && (x4.toList == y4.toList))))))) w := by
  refine eqA_of Try.underlying29 (by kernel_rfl) ?_
  refine eqf_cons (by rfl) (by go_simp; rfl) (by go_simp; rfl) (by go_simp) ?_
  exact eqf_last (by rfl) (by go_simp) (by go_simp) (eqA27 (d + 0) w _ _ _ _ _ _ _ _)
end Go.Proofs.Ytgdmdhhihoifkaa.Pr

namespace Go.Proofs.Ytgdmdhhihoifkaa.Pr
open Go.Shelf Go.RowKit Go.Lib Go.Sort Go.Proofs.Ytgdmdhhihoifkaa
open Go.Proofs.YtgdmdhhihoifkaaW.PrintWords Go.Proofs.YtgdmdhhihoifkaaW.PrintLast Go.Proofs.YtgdmdhhihoifkaaW.PrintMore

theorem eql_Chs (x y : Ch) (w : World) : Sem.run Try.prog (binOp .eql 29 (.agg #[.int .i64 x.f0, .bool x.f1.f0, .string x.f1.f1.f0, .string x.f1.f1.f1, .string x.f1.f1.f2]) (.agg #[.int .i64 y.f0, .bool y.f1.f0, .string y.f1.f1.f0, .string y.f1.f1.f1, .string y.f1.f1.f2])) w = .ok (.bool (decide (x = y))) w := by
  rw [run_eql_struct, show (10000 : Nat) = 9996 + 4 from rfl, eqA29]
  have h := eqx_Ch x y
  have h2 : (x.f0 == y.f0 && (x.f1.f0 == y.f1.f0 && (x.f1.f1.f0.toList == y.f1.f1.f0.toList && (x.f1.f1.f1.toList == y.f1.f1.f1.toList && x.f1.f1.f2.toList == y.f1.f1.f2.toList)))) = decide (x = y) := by
    by_cases e : x = y
    · rw [decide_eq_true e, h.2 e]
    · rw [decide_eq_false e]
      exact Bool.eq_false_iff.2 (fun q => e (h.1 q))
  rw [h2]; rfl
theorem rise_step (l : List Ch) (i : Nat) (x : Ch) (hx : l[i]? = some x) (s : Int × List Ch) (h : (l.take i).foldl riseDo (0, []) = s) : (l.take (i + 1)).foldl riseDo (0, []) = riseDo s x := by
  rw [take_step l i x hx, List.foldl_append, h]; rfl
theorem drawn_below {w w' : World} (h : Drawn0 w w') : Below w.heap.size w w' := by
  obtain ⟨n, rfl⟩ := h
  exact ⟨rfl, rfl, rfl, Nat.le_refl _, fun _ _ => rfl⟩

set_option maxHeartbeats 8000000 in
set_option maxRecDepth 100000 in
theorem watchEffect_calls (A0 : Option Addr) (c0 : Nat) (l0 : List Ch) (w : World) (hr0 : Kd.C k29 w A0 l0.length l0) (_hc0 : l0.length ≤ c0) (hl : l0.length ≤ 1048576) :
    Calls Try.prog 3 #[.slice A0 l0.length c0] w fun e w' => e = .returned (.bool true) ∧ Below w.heap.size w w' := by
  have HR0 : Aside (Kd.C k29 w A0 l0.length l0) := hr0
  have HLn : Aside (l0.length ≤ 1048576) := hl
  clear hr0
  go_enter Try.func3, Try.ntmps3
  go_wp2_with (go_at_call 6; refine (porterlaw22_awake.calls true _ awake_yes).mono ?_; rintro e w1 ⟨rfl, hb⟩; have HB1 : Aside _ := hb; clear hb)
  go_loopg [3, 4, 16] l0.length (fun gk s3 s4 s16 wr => ∃ (i : Nat) (la : Int) (acc : List Ch), s3 = .int .i64 la ∧ s16 = .int .i64 i ∧ i ≤ l0.length ∧ l0.length - i ≤ gk ∧ Hid ((l0.take i).foldl riseDo (0, []) = (la, acc) ∧ acc.length ≤ i) ∧ Aside (Kd.R k29 29 wr w.heap.size (fun _ => True) s4 acc) ∧ Aside (Below w.heap.size w wr))
  case atStart => exact ⟨0, 0, [], rfl, rfl, Nat.zero_le _, Nat.le_refl _, ⟨rfl, Nat.le_refl _⟩, Kd.R_nil _ _ _ _ _, HB1.out⟩
  case round =>
    clear HB1
    obtain ⟨i, la, acc, rfl, rfl, hi, hg, HS, HO, HB⟩ := hrel
    by_cases hlt : i < l0.length
    · have hltz : (i : Int) < (l0.length : Int) := by omega
      obtain ⟨ad, x, rfl, hx, h0, h1, h2, h3, h4⟩ := el_Ch HR0.out rfl i hlt
      replace h0 := cell_below HB.out h0
      replace h1 := cell_below HB.out h1
      replace h2 := cell_below HB.out h2
      replace h3 := cell_below HB.out h3
      replace h4 := cell_below HB.out h4
      have HSt := rise_step l0 i x hx _ HS.out.1
      have HL : Aside (acc.length < 2147483648 ∧ w.heap.size ≤ wr.heap.size ∧ acc.length ≤ i) := ⟨by have := HS.out.2; have := HLn.out; omega, HB.out.size, HS.out.2⟩
      have HSn : Hid (type_of% HSt) := HSt
      clear HS HSt hx
      obtain ⟨x0, x1, t0, t1, t2⟩ := x
      dsimp only at h0 h1 h2 h3 h4
      by_cases c1 : la < x0
      · have d1 : decide (la < x0) = true := decide_eq_true c1
        by_cases c2 : x0 ≤ 1125899906842624
        · have d2 : decide (x0 ≤ 1125899906842624) = true := decide_eq_true c2
          have HN : Hid ((l0.take (i + 1)).foldl riseDo (0, []) = (x0, acc ++ [⟨x0, ⟨x1, ⟨t0, t1, t2⟩⟩⟩]) ∧ (acc ++ [(⟨x0, ⟨x1, ⟨t0, t1, t2⟩⟩⟩ : Ch)]).length ≤ i + 1) := ⟨by rw [HSn.out]; unfold riseDo; rw [if_pos c1, if_pos c2], by have := HL.out.2.2; simp; omega⟩
          clear HSn
          go_wp2_with (at_builtin; refine app_Ch (w0 := w) w.heap.size rfl (.tmp 29) (.tmp 31) rfl u4 acc ⟨x0, ⟨x1, ⟨t0, t1, t2⟩⟩⟩ rfl (by first | (go_simp; done) | (go_simp; rfl)) ?aO ?aB ?aS HL.out.1 ?_; (case aO => exact Kd.R_alloc HO.out _); (case aB => exact HB.out.alloc HL.out.2.1 _); (case aS => have := HL.out.2.1; simp; omega); intro v1 w2 ho hb hg1 hat; have e0 := (blk_cell (blk_grown (blk_new wr (.cells #[.int .i64 x0, .bool x1, .string t0, .string t1, .string t2] 29)) hg1 (by have := fun k hk => ((fl_Ch HO.out).lt k hk).2; intro h; have := this _ h.symm; omega)) 0).trans rfl; have HO1 : Aside _ := ho; have HB1 : Aside _ := hb; clear ho hb hg1 hat)
          go_roundg (l0.length - (i + 1))
          case measure => omega
          case rel => exact ⟨i + 1, _, _, rfl, by first | rfl | go_num, by omega, Nat.le_refl _, HN.out, HO1.out, HB1.out⟩
        · have d2 : decide (x0 ≤ 1125899906842624) = false := decide_eq_false c2
          have HN : Hid ((l0.take (i + 1)).foldl riseDo (0, []) = (la, acc) ∧ acc.length ≤ i + 1) := ⟨by rw [HSn.out]; unfold riseDo; rw [if_pos c1, if_neg c2], by have := HL.out.2.2; omega⟩
          clear HSn
          go_wp2
          go_roundg (l0.length - (i + 1))
          case measure => omega
          case rel => exact ⟨i + 1, la, acc, rfl, by first | rfl | go_num, by omega, Nat.le_refl _, HN.out, Kd.R_alloc HO.out _, HB.out.alloc HL.out.2.1 _⟩
      · have d1 : decide (la < x0) = false := decide_eq_false c1
        have HN : Hid ((l0.take (i + 1)).foldl riseDo (0, []) = (la, acc) ∧ acc.length ≤ i + 1) := ⟨by rw [HSn.out]; unfold riseDo; rw [if_neg c1], by have := HL.out.2.2; omega⟩
        clear HSn
        go_wp2
        go_roundg (l0.length - (i + 1))
        case measure => omega
        case rel => exact ⟨i + 1, la, acc, rfl, by first | rfl | go_num, by omega, Nat.le_refl _, HN.out, Kd.R_alloc HO.out _, HB.out.alloc HL.out.2.1 _⟩
    · have hltz : ¬ (i : Int) < (l0.length : Int) := by omega
      have hF : Rising acc ∧ acc.length ≤ 1048576 ∧ (rowsL acc).length ≤ 1048576 ∧ (effL [] acc).length ≤ 1048576 := by
        have h := HS.out.1
        rw [List.take_of_length_le (by omega)] at h
        have hacc : riseL l0 = acc := by unfold riseL; rw [h]
        have h2 := rise_ok l0
        rw [hacc] at h2
        have h3 := rows_len acc
        have h4 := (eff_sub acc []).length_le
        exact ⟨h2.1, by omega, by omega, by omega⟩
      have HF : Hid (type_of% hF) := hF
      clear HS hF
      obtain ⟨rows, hrows⟩ : ∃ r, r = msort ltRo (rowsL acc) := ⟨_, rfl⟩
      obtain ⟨ag, hag⟩ : ∃ r, r = effL [] acc := ⟨_, rfl⟩
      obtain ⟨pl, hpl⟩ : ∃ r, r = msort ltT (playL [] acc) := ⟨_, rfl⟩
      have HQ : Hid (watch_Rows.f acc = some rows ∧ watch_Changes.f rows 0 1125899906842624 = some ag ∧ watch_Play.f [] ag = some pl ∧ watch_Play.f [] acc = some pl ∧ watch_Rows.f ag = some rows ∧ porterlaw22_tuples.f 4294967295 pl pl = some true ∧ porterref07_Same.f 4294967295 rows rows = some true ∧ ag = effL [] acc ∧ ag.length ≤ 1048576) := by
        have h := HF.out
        have h5 : (playL [] acc).length ≤ acc.length := by have := playE_len acc []; simpa [playL] using this
        have h6 : rows.length ≤ 1048576 := by rw [hrows, msort_len]; exact h.2.2.1
        have h7 : pl.length ≤ 1048576 := by rw [hpl, msort_len]; omega
        refine ⟨?_, ?_, ?_, ?_, ?_, tuples_f_self _ (by omega) _ (by omega), same_f_self _ (by omega) _ (by omega), hag, by rw [hag]; exact h.2.2.2⟩
        · unfold watch_Rows.f; rw [if_pos (tiny_of (by omega)), hrows]
        · unfold watch_Changes.f; rw [if_pos (tiny_of (by omega)), hag, hrows]; exact congrArg some (again_eq acc h.1)
        · unfold watch_Play.f; rw [if_pos (tiny_of (by simp)), if_pos (tiny_of (by rw [hag]; omega)), hag, play_eff acc h.1, hpl]
        · unfold watch_Play.f; rw [if_pos (tiny_of (by simp)), if_pos (tiny_of (by omega)), hpl]
        · unfold watch_Rows.f; rw [if_pos (tiny_of (by rw [hag]; omega)), hag, rows_eff, hrows]
      clear hrows hag hpl
      obtain ⟨A4, c4, h4⟩ := Kd.R_slice HO.out
      subst h4
      have HC4 : Aside (type_of% (Kd.R_reads' HO.out).2) := (Kd.R_reads' HO.out).2
      go_wp2_with (first | (go_at_call 7; ((refine (watch_Rows.calls _ _ acc rows _ HC4.out.2 HC4.out.1 HQ.out.1).mono ?_); rintro e w2 ⟨v7, rfl, ho, hb⟩; obtain ⟨A7, c7, rfl⟩ := Kd.R_slice ho; have HO7 : Aside _ := ho; have HB7 : Aside _ := hb; clear ho hb)) | (go_at_call 8; ((refine (watch_Changes.calls _ _ rows _ _ ag _ (Kd.R_reads' HO7.out).2.2 (Kd.R_reads' HO7.out).2.1 HQ.out.2.1).mono ?_); rintro e w3 ⟨v8, rfl, ho, hb⟩; obtain ⟨A8, c8, rfl⟩ := Kd.R_slice ho; have HO8 : Aside _ := ho; have HB8 : Aside _ := hb; clear ho hb)))
      have S0 : Aside ((acc.length ≤ c4 ∧ rows.length ≤ c7 ∧ ag.length ≤ c8) ∧ Kd.C k29 w3 A4 acc.length acc ∧ Kd.C k51 w3 A7 rows.length rows ∧ Kd.C k29 w3 A8 ag.length ag ∧ Below w.heap.size w w3 ∧ w.heap.size ≤ w3.heap.size) := by
        have q1 := HB.out.trans (HB7.out.mono HB.out.size)
        have q2 := q1.trans (HB8.out.mono q1.size)
        refine ⟨⟨HC4.out.1, (Kd.R_reads' HO7.out).2.1, (Kd.R_reads' HO8.out).2.1⟩, Kd.C_below (Kd.C_below HC4.out.2 HB7.out) HB8.out, Kd.C_below (Kd.R_reads' HO7.out).2.2 HB8.out, (Kd.R_reads' HO8.out).2.2, q2, q2.size⟩
      clear HO HC4 HO7 HB7 HO8 HB8 HB
      go_loopg [9, 42] acc.length (fun gk s9 s42 wq => ∃ (A B E : List Ch) (out : List Ro), s9 = .int .i64 E.length ∧ s42 = .int .i64 A.length ∧ acc.length - A.length ≤ gk ∧ Hid (acc = A ++ B ∧ ag = E ++ effL out B ∧ E.length ≤ A.length) ∧ Aside ((acc.length ≤ c4 ∧ rows.length ≤ c7 ∧ ag.length ≤ c8) ∧ Kd.C k29 wq A4 acc.length acc ∧ Kd.C k51 wq A7 rows.length rows ∧ Kd.C k29 wq A8 ag.length ag ∧ Below w.heap.size w wq ∧ w.heap.size ≤ wq.heap.size))
      case atStart => exact ⟨[], acc, [], [], rfl, rfl, by simp, ⟨rfl, by rw [HQ.out.2.2.2.2.2.2.2.1]; rfl, Nat.le_refl _⟩, S0.out⟩
      case round =>
        clear S0
        obtain ⟨A, B, E, out, rfl, rfl, hg2, HE, S1⟩ := hrel
        have hsm : acc.length ≤ 1048576 ∧ ag.length ≤ 1048576 := ⟨HF.out.2.1, HQ.out.2.2.2.2.2.2.2.2⟩
        cases B with
        | nil =>
          have hlen : (A.length : Int) = acc.length := by rw [HE.out.1]; simp
          have hlz : ¬ (A.length : Int) < (acc.length : Int) := by omega
          have hel : (E.length : Int) = ag.length := by rw [HE.out.2.1]; simp [effL]
          have d1 : ((E.length : Int) == (ag.length : Int)) = true := by simp [hel]
          have d2 : decide (E.length = ag.length) = true := by simp; omega
          have d3 : (E.length == ag.length) = true := by simp; omega
          clear hlen hel
          have HP : Hid (∀ (W : World) (A1 : Option Addr) (c1 : Nat) (l1 : List Ch), Kd.C k29 W A1 l1.length l1 → l1.length ≤ c1 → watch_Play.f [] l1 = some pl → Calls Try.prog 10 #[.slice none 0 0, .slice A1 l1.length c1] W fun e w' => ∃ v0_ : Value, e = .returned (v0_) ∧ Kd.R k25 25 w' W.heap.size (fun _ => True) v0_ pl ∧ Below W.heap.size W w') := fun W A1 c1 l1 h1 h2 h3 => watch_Play.calls none 0 [] A1 c1 l1 pl W (Kd.C_nil _ _) (Nat.zero_le _) h1 h2 h3
          go_wp2_with (first | (go_at_call 10; (with_reducible refine (HP.out _ A8 c8 ag S1.out.2.2.2.1 S1.out.1.2.2 HQ.out.2.2.1).mono ?_); rintro e w4 ⟨v9, rfl, ho, hb⟩; obtain ⟨A9, c9, rfl⟩ := Kd.R_slice ho; have HO9 : Aside _ := ho; have HB9 : Aside _ := hb; clear ho hb) | (go_at_call 10; (with_reducible refine (HP.out _ A4 c4 acc (Kd.C_below S1.out.2.1 HB9.out) S1.out.1.1 HQ.out.2.2.2.1).mono ?_); rintro e w5 ⟨v10, rfl, ho, hb⟩; obtain ⟨A10, c10, rfl⟩ := Kd.R_slice ho; have HO10 : Aside _ := ho; have HB10 : Aside _ := hb; clear ho hb) | (go_at_call 9; (refine (porterlaw22_tuples.calls 4294967295 _ _ pl _ _ pl true _ (Kd.C_below (Kd.R_reads' HO9.out).2.2 HB10.out) (Kd.R_reads' HO9.out).2.1 (Kd.R_reads' HO10.out).2.2 (Kd.R_reads' HO10.out).2.1 HQ.out.2.2.2.2.2.1).mono ?_); rintro e w6 ⟨rfl, hb⟩; have HB11 : Aside _ := drawn_below hb; clear hb) | (go_at_call 7; (refine (watch_Rows.calls _ _ ag rows _ (Kd.C_below (Kd.C_below (Kd.C_below S1.out.2.2.2.1 HB9.out) HB10.out) HB11.out) S1.out.1.2.2 HQ.out.2.2.2.2.1).mono ?_); rintro e w7 ⟨v12, rfl, ho, hb⟩; obtain ⟨A12, c12, rfl⟩ := Kd.R_slice ho; have HO12 : Aside _ := ho; have HB12 : Aside _ := hb; clear ho hb) | (go_at_call 11; (refine (porterref07_Same.calls 4294967295 _ _ rows _ _ rows true _ (Kd.R_reads' HO12.out).2.2 (Kd.R_reads' HO12.out).2.1 (Kd.C_below (Kd.C_below (Kd.C_below (Kd.C_below S1.out.2.2.1 HB9.out) HB10.out) HB11.out) HB12.out) S1.out.1.2.1 HQ.out.2.2.2.2.2.2.1).mono ?_); rintro e w8 ⟨rfl, hb⟩; have HB13 : Aside _ := drawn_below hb; clear hb))
          go_ret
          refine ⟨rfl, ?_⟩
          have q1 := S1.out.2.2.2.2.1.trans (HB9.out.mono S1.out.2.2.2.2.2)
          have q2 := q1.trans (HB10.out.mono q1.size)
          have q3 := q2.trans (HB11.out.mono q2.size)
          have q4 := q3.trans (HB12.out.mono q3.size)
          exact q4.trans (HB13.out.mono q4.size)
        | cons c B =>
          have hal : A.length < acc.length := by rw [HE.out.1]; simp
          have hlz : (A.length : Int) < (acc.length : Int) := by omega
          obtain ⟨ad, x, hA4, hx, h0, h1, h2, h3, h4⟩ := el_Ch S1.out.2.1 rfl A.length hal
          obtain rfl : x = c := by
            have h := hx
            rw [HE.out.1] at h
            simpa using h.symm
          subst hA4
          have HM : Aside (((acc.length ≤ c4 ∧ rows.length ≤ c7 ∧ ag.length ≤ c8)) ∧ w.heap.size ≤ wr.heap.size) := ⟨S1.out.1, S1.out.2.2.2.2.2⟩
          have S2 : ∀ o n, Aside ((acc.length ≤ c4 ∧ rows.length ≤ c7 ∧ ag.length ≤ c8) ∧ Kd.C k29 ((wr.alloc o).drewN n) (some ad) acc.length acc ∧ Kd.C k51 ((wr.alloc o).drewN n) A7 rows.length rows ∧ Kd.C k29 ((wr.alloc o).drewN n) A8 ag.length ag ∧ Below w.heap.size w ((wr.alloc o).drewN n) ∧ w.heap.size ≤ ((wr.alloc o).drewN n).heap.size) := fun o n => ⟨HM.out.1, Kd.C_drewN (Kd.C_alloc S1.out.2.1 o) n, Kd.C_drewN (Kd.C_alloc S1.out.2.2.1 o) n, Kd.C_drewN (Kd.C_alloc S1.out.2.2.2.1 o) n, pw_below_drewN (S1.out.2.2.2.2.1.alloc HM.out.2 o) n, by have := HM.out.2; show w.heap.size ≤ (wr.alloc o).heap.size; simp; omega⟩
          have HS2 : Aside (type_of% S2) := S2
          have hm : acc.length - (A ++ [x]).length ≤ acc.length - (A.length + 1) := by simp
          have hn2 : acc.length - (A.length + 1) < acc.length - A.length := by omega
          have HX : Hid (acc = (A ++ [x]) ++ B ∧ E.length ≤ A.length) := ⟨by rw [HE.out.1]; simp, HE.out.2.2⟩
          clear S2 hx
          by_cases ha : acts out x = true
          · have he : ag = (E ++ [x]) ++ effL (rowsDo out x) B := by rw [HE.out.2.1, effL, if_pos ha]; simp
            have hel : E.length < ag.length := by rw [he]; simp
            have hez : (E.length : Int) < (ag.length : Int) := by omega
            obtain ⟨ad8, y, hA8, hy, g0, g1, g2, g3, g4⟩ := el_Ch S1.out.2.2.2.1 rfl E.length hel
            obtain rfl : y = x := by
              rw [he] at hy
              simpa using hy.symm
            subst hA8
            have heq : ∀ w, _ := fun w => eql_Chs y y w
            rw [decide_eq_true rfl] at heq
            have HN : Hid (acc = (A ++ [y]) ++ B ∧ ag = (E ++ [y]) ++ effL (rowsDo out y) B ∧ (E ++ [y]).length ≤ (A ++ [y]).length) := ⟨HX.out.1, he, by have := HX.out.2; simp; omega⟩
            clear HE S1 HX he hy ha
            have b1 : decide ((E.length : Int) < (ag.length : Int)) = true := decide_eq_true hez
            have b2 : decide (E.length < ag.length) = true := decide_eq_true hel
            have b3 : (0 : Int) ≤ (E.length : Int) := by omega
            obtain ⟨x0, ⟨x1, ⟨t0, t1, t2⟩⟩⟩ := y
            dsimp only at h0 h1 h2 h3 h4 g0 g1 g2 g3 g4 heq
            have hbo := (Below.refl wr.heap.size wr).alloc (Nat.le_refl _) (.cells #[.int .i64 x0, .bool x1, .string t0, .string t1, .string t2] 29)
            replace g0 := cell_below hbo g0
            replace g1 := cell_below hbo g1
            replace g2 := cell_below hbo g2
            replace g3 := cell_below hbo g3
            replace g4 := cell_below hbo g4
            clear hbo
            go_wp2
            go_quiet (fail)
            go_wp2
            go_roundg (acc.length - (A.length + 1))
            case measure => omega
            case rel => exact ⟨A ++ [_], B, E ++ [_], rowsDo out _, by first | rfl | (simp; done) | (simp; go_num), by first | rfl | (simp; done) | (simp; go_num), by simp, HN.out, (HS2.out _ _).out⟩
          · have he : ag = E ++ effL (rowsDo out x) B := by rw [HE.out.2.1, effL, if_neg ha]
            have hgt : ∀ y ∈ effL (rowsDo out x) B, x.f0 < y.f0 := by
              intro y hy
              have h := HF.out.1.1
              rw [HE.out.1, List.pairwise_append] at h
              have h2 := h.2.1
              rw [List.pairwise_cons] at h2
              exact h2.1 y ((eff_sub B _).subset hy)
            have HN : Hid (acc = (A ++ [x]) ++ B ∧ ag = E ++ effL (rowsDo out x) B ∧ E.length ≤ (A ++ [x]).length) := ⟨HX.out.1, he, by have := HX.out.2; simp; omega⟩
            by_cases hel : E.length < ag.length
            · have hez : (E.length : Int) < (ag.length : Int) := by omega
              obtain ⟨ad8, y, hA8, hy, g0, g1, g2, g3, g4⟩ := el_Ch S1.out.2.2.2.1 rfl E.length hel
              have hne : ¬ y = x := by
                rintro rfl
                rw [he, List.getElem?_append_right (Nat.le_refl _), Nat.sub_self] at hy
                have := hgt y (List.mem_of_getElem? hy)
                omega
              subst hA8
              have heq : ∀ w, _ := fun w => eql_Chs y x w
              rw [decide_eq_false hne] at heq
              clear HE S1 HX he hy ha hgt hne
              have b1 : decide ((E.length : Int) < (ag.length : Int)) = true := decide_eq_true hez
              have b2 : decide (E.length < ag.length) = true := decide_eq_true hel
              have b3 : (0 : Int) ≤ (E.length : Int) := by omega
              obtain ⟨x0, ⟨x1, ⟨t0, t1, t2⟩⟩⟩ := x
              obtain ⟨y0, ⟨y1, ⟨r0, r1, r2⟩⟩⟩ := y
              dsimp only at h0 h1 h2 h3 h4 g0 g1 g2 g3 g4 heq
              have hbo := (Below.refl wr.heap.size wr).alloc (Nat.le_refl _) (.cells #[.int .i64 x0, .bool x1, .string t0, .string t1, .string t2] 29)
              replace g0 := cell_below hbo g0
              replace g1 := cell_below hbo g1
              replace g2 := cell_below hbo g2
              replace g3 := cell_below hbo g3
              replace g4 := cell_below hbo g4
              clear hbo
              go_wp2
              go_quiet (fail)
              go_wp2
              go_roundg (acc.length - (A.length + 1))
              case measure => omega
              case rel => exact ⟨A ++ [_], B, E, rowsDo out _, rfl, by first | rfl | (simp; done) | (simp; go_num), by simp, HN.out, (HS2.out _ _).out⟩
            · have hez : ¬ (E.length : Int) < (ag.length : Int) := by omega
              clear HE S1 HX he ha hgt
              have b1 : decide ((E.length : Int) < (ag.length : Int)) = false := decide_eq_false hez
              have b2 : decide (E.length < ag.length) = false := decide_eq_false hel
              obtain ⟨x0, ⟨x1, ⟨t0, t1, t2⟩⟩⟩ := x
              dsimp only at h0 h1 h2 h3 h4
              go_wp2
              go_quiet (fail)
              go_wp2
              go_roundg (acc.length - (A.length + 1))
              case measure => omega
              case rel => exact ⟨A ++ [_], B, E, rowsDo out _, rfl, by first | rfl | (simp; done) | (simp; go_num), by simp, HN.out, (HS2.out _ _).out⟩
end Go.Proofs.Ytgdmdhhihoifkaa.Pr

namespace Go.Proofs.Ytgdmdhhihoifkaa.watchEffect
open Go.ChangeShapes Go.WideShapes Go.ChangeAt Go.RowKit Go.Proofs.Ytgdmdhhihoifkaa.Pr

theorem own : ownKnob Try.prog.godebug = none := by kernel_rfl
theorem laidOut : laidOutB Try.prog = true := by kernel_rfl

set_option maxRecDepth 1000000 in
theorem contract (H : Type) (enc : TypeId × Value → H) (W : World) (base : Nat) (args : Array Value) (ds gs : List (DataW H)) (before : List MemPlace)
    (hval : ∀ (j : Nat) t v, Try.f3.params[j]? = some t → args[j]? = some v → Value.okWide Try.prog W .any base t v)
    (hW : DataW.Whole enc Try.prog Try.f3.params.toList Rows.watchEffectSpec.vars false W args.toList ds gs before) (hk : Rows.uptoSmall H (ds ++ gs) = true) :
    Calls Try.prog 3 args W fun e W' => ∃ v, e = .returned v ∧ Rows.watchEffectSpec.post enc Try.prog Try.f3 false true false false W args v W' := by
  have hW' := hW
  obtain ⟨p, q, hA0, hV, rfl, hfz, hnd⟩ := hW
  have hA : DataW.TrodAll enc Try.prog W 0 (fun _ => true) true Try.f3.params.toList args.toList ds p := hA0
  rw [Try.params3] at hA hval
  obtain ⟨v0, vs0, d0, ds0, p0, q0, hargs, rfl, rfl, h0, r0⟩ := trodAll_cons hA
  obtain ⟨rfl, rfl, rfl⟩ := trodAll_nil r0
  obtain rfl : args = #[v0] := by cases args; simp_all
  obtain ⟨rfl, rfl⟩ := trodVars_none hV
  obtain ⟨a0, len0, cap0, rfl⟩ := okWide_slice Try.underlying22 (hval 0 22 v0 rfl rfl)
  have k0 := h0
  have lt0 : ∀ x ∈ p0, x.block < W.heap.size := by obtain ⟨m, hm⟩ := k0; exact DataW.trod_lt m _ _ _ hm
  obtain ⟨l0, rfl, hc0, hb0, hC0⟩ := open_Ch h0
  have hu0 : l0.length ≤ 1048576 := by
    have h1 := of_decide_eq_true hk
    have h2 := bulk_mem (H := H) (d := d0) (l := [d0]) (by simp)
    simp only [List.append_nil] at h1
    exact Nat.le_trans hb0 (Nat.le_trans h2 h1)
  clear hA0 hk
  refine (watchEffect_calls a0 cap0 l0 W hC0 hc0 hu0).mono fun e W' ⟨he, bel⟩ => ?_
  subst he
  exact ⟨_, rfl, _, _, _, [], _, [], hW', trodAll_mk1 (shut_bool Try.underlying4 _), (trodAll_cons_mk (Below.trod laidOut (by kernel_rfl) (of_decide_eq_true (by kernel_rfl)) k0 bel lt0) trodAll_mk0), rfl, bel.frame _, fun h => by cases h⟩

set_option maxRecDepth 100000 in
theorem lifted (os : Os) (started : os.Started) (H : Type) (enc : TypeId × Value → H) (F : Stop.Interp) :
    ReturnsInHanded {} Try.checked os 3 .any ((Rows.OpenSpec.upto Rows.watchEffectSpec).pre6 enc Try.prog Try.f3 Rows.watchEffectUptoRow.domain false) (((Rows.OpenSpec.upto Rows.watchEffectSpec).at F).post enc Try.prog Try.f3 false true false false) := by
  refine returnsInHanded_of_cond (C := Try.checked) (s := Rows.OpenSpec.upto Rows.watchEffectSpec) (k := Rows.uptoSmall) rfl own started (by kernel_rfl) Try.func3
    (OpenSpec.witness (enc := enc) (C := Try.checked) (s := Rows.OpenSpec.upto Rows.watchEffectSpec) (k := Rows.uptoSmall) rfl false ⟨#[], #[.slice none 0 0], []⟩ 8 (by kernel_rfl) (by kernel_rfl) (by kernel_rfl)
      (x := ([.nil], [], [])) (by kernel_rfl) rfl (by kernel_rfl)) ?_
  intro W base args ds gs before hval hW _ hk _
  exact contract H enc W base args ds gs before hval hW hk

theorem over : Rows.watchEffectUptoRow.holds Try.pinned (Rows.OpenSpec.upto Rows.watchEffectSpec) :=
  OpenClaim.holds_of_cond 3 Try.f3 rfl rfl rfl rfl rfl rfl rfl ⟨rfl, rfl, rfl, rfl, rfl⟩ rfl rfl rfl rfl rfl (by kernel_rfl) Try.func3 (by kernel_rfl)
    (of_decide_eq_true (by kernel_rfl)) (by unfold Func.isWrapper; first | (rw [if_pos (by decide +kernel)]; kernel_rfl) | (rw [if_neg (by decide +kernel)]; exact ⟨rfl, rfl⟩))
    (fun os started H enc _ F => lifted os started H enc F)

theorem proved : Rows.WatchEffectUptoSaid := over
end Go.Proofs.Ytgdmdhhihoifkaa.watchEffect
namespace Go.Proofs.Ytgdmdhhihoifkaa
/-- The row, under a short name, for the claim. -/
theorem watchEffectUpto_holds : Rows.WatchEffectUptoSaid := watchEffect.proved
end Go.Proofs.Ytgdmdhhihoifkaa
