/- A part of the proof of the law; the last part states it: whatever the law reads, of bulk at most 2^20, it returns true and what it reads is as it was. Condition: the form's own bound. -/
import Derived.Test.YtgjkidclpehnjaaDo2
import Derived.Shelf.SlSortCmp.InsertionK
import Derived.Shelf.SlSortCmp.KitK
import Derived.Shelf.SlicesE.Kit
import Derived.Deep.LoopGhost
import Derived.Sort.WalkB2
import Derived.Sort.WalkB12
import Derived.Laws.StructEq
import Derived.Shelf.SlSortCmp.NoneTotal
import Derived.RangeFuncNested
import Derived.RangeFuncBound
import Derived.RangeFuncCalls
import Derived.RangeFuncLeaves
import Derived.RangeFuncBox
import Derived.Shelf.Abstract
import Derived.WalkKit
import Derived.OwnWalkIn
import Derived.TacticsInMore
import Derived.LoopNIn
import Derived.LoopIn
import Derived.Deep.AppendLies
import Derived.Deep.RegionHeld3
import Derived.Lib.SmallJoins
import Derived.Lib.SliceRun
import Derived.Shelf.SlicesQ.Contains
import Derived.Maps.RangeRun
set_option linter.unusedVariables false
set_option linter.unusedSimpArgs false
namespace Go.Proofs.Ytgjkidclpehnjaa
open Go.Shelf Go.RowKit Go.Lib Go.Sort
variable {P : Program} {α : Type} [Inhabited α]

set_option maxHeartbeats 4000000 in
set_option maxRecDepth 1000000 in
/-- Two blocks one behind the other, exchanged. -/
theorem StCh.rotate {k : Nat} (L : StChF P k) (enc : α → List Value) (g : Nat) (cb : Array Value) (blk off cap a m b sz : Nat) (X U V Y : List α) (d0 : Array α) (w0 w : World) (R : RowK enc k w0 blk off d0)
    (ha : a = X.length) (hm : m = X.length + U.length) (hb : b = X.length + U.length + V.length) (hU : 0 < U.length) (hV : 0 < V.length) (hz : sz = X.length + U.length + V.length + Y.length) (hs : d0.size = sz) (hbig : sz < 4611686018427387904)
    (S : SWK enc k w0 blk off (X ++ U ++ V ++ Y).toArray w) :
    Calls P 74 #[.slice (some ⟨blk, off, none⟩) sz cap, .int .i64 a, .int .i64 m, .int .i64 b, .func (.func g) #[] cb] w fun e w' => e = .returned (.tuple #[]) ∧ SWK enc k w0 blk off (X ++ V ++ U ++ Y).toArray w' := by
  have mixed := L.mixed; have t3 := L.t3; have a3 := L.a3; have z3 := L.z3; have v3 := L.v3; have t4 := L.t4; have a4 := L.a4; have z4 := L.z4; have v4 := L.v4; have t22 := L.t22; have a22 := L.a22; have z22 := L.z22; have v22 := L.v22; have t25 := L.t25; have a25 := L.a25; have z25 := L.z25; have v25 := L.v25; have aE := L.aE; have zE := L.zE
  have e83 : ∀ args w, (callFunc 84 args).run P w = .ok (.enter 84 args) w := enters_of L.fswap (by kernel_rfl) rfl
  have HE : Hid (a = X.length ∧ m = X.length + U.length ∧ b = X.length + U.length + V.length ∧ sz = X.length + U.length + V.length + Y.length ∧ d0.size = sz) := ⟨ha, hm, hb, hz, hs⟩
  have S0 : Aside (SWK enc k w0 blk off (X ++ U ++ V ++ Y).toArray w) := S
  have b1 : a < m := by omega
  have b2 : m < b := by omega
  have b3 : b ≤ sz := by omega
  clear S ha hm hb hU hV hz hs
  go_enter L.frot, Try.ntmps74
  go_wp2
  go_loopg [10, 11] (m - a + (b - m)) (fun gk s10 s11 wr => ∃ (i j : Nat) (A U1 V1 Z : List α), s10 = .int .i64 i ∧ s11 = .int .i64 j ∧ 1 ≤ i ∧ 1 ≤ j ∧ a + i ≤ m ∧ m + j ≤ b ∧ i + j ≤ gk ∧
    Hid (U1.length = i ∧ V1.length = j ∧ X.length + A.length + i = m ∧ V ++ U = A ++ V1 ++ U1 ++ Z) ∧ Aside (SWK enc k w0 blk off ((X ++ A) ++ U1 ++ V1 ++ (Z ++ Y)).toArray wr))
  case atStart =>
    refine ⟨m - a, b - m, [], U, V, [], ?_, ?_, by omega, by omega, by omega, by omega, Nat.le_refl _, ?_, ?_⟩
    · rw [show ((m - a : Nat) : Int) = (m : Int) - (a : Int) from by omega]
    · rw [show ((b - m : Nat) : Int) = (b : Int) - (m : Int) from by omega]
    · have h2 := HE.out
      exact ⟨by omega, by omega, by simp; omega, by simp⟩
    · rw [List.append_nil, List.nil_append]; exact S0
  case round =>
    clear S0
    obtain ⟨i, j, A, U1, V1, Z, rfl, rfl, hi1, hj1, hai, hmj, hg, HU, S1⟩ := hrel
    have hlen : X.length + A.length + U1.length + V1.length + Z.length + Y.length = sz := by
      have h1 := HU.out; have h2 := HE.out
      have h3 := congrArg List.length h1.2.2.2
      simp at h3; omega
    have HL : Aside (X.length + A.length + U1.length + V1.length + Z.length + Y.length = sz) := hlen
    clear hlen
    have zmi : ((m - i : Nat) : Int) = (m : Int) - (i : Int) := by omega
    rcases Nat.lt_trichotomy i j with hij | hij | hij
    · -- i < j: the last i of V1 come to the front
      have hne : ((i : Int) != (j : Int)) = true := by rw [bne_iff_ne]; omega
      have hgt : ¬ ((j : Int) < (i : Int)) := by omega
      have hijz : (i : Int) < (j : Int) := by omega
      obtain ⟨V2, V3, hV, hV2⟩ : ∃ V2 V3, V1 = V2 ++ V3 ∧ V2.length = j - i := ⟨V1.take (j - i), V1.drop (j - i), (List.take_append_drop _ _).symm, by have := HU.out; simp; omega⟩
      have hV3 : V3.length = i := by have h1 := HU.out; rw [hV] at h1; simp at h1; omega
      have hc := StCh.swapRange L enc g cb blk off cap (m - i) (m + j - i) i sz (X ++ A) U1 V2 V3 (Z ++ Y) d0 w0 wr R (by have h1 := HU.out; simp; omega) (by have h1 := HU.out; simp; omega) (by have h1 := HU.out; omega) hV3
        (by have h1 := HL.out; rw [hV] at h1; simp at h1 ⊢; omega) HE.out.2.2.2.2 hbig (by have := S1.out; rw [hV] at this; simpa [List.append_assoc] using this)
      rw [zmi, show ((m + j - i : Nat) : Int) = (m : Int) + (j : Int) - (i : Int) from by omega] at hc
      have HU2 : Hid (V3.length = i ∧ V2.length = j - i ∧ X.length + A.length + i = m ∧ V ++ U = A ++ V2 ++ V3 ++ (U1 ++ Z)) := by
        have h1 := HU.out
        exact ⟨hV3, hV2, h1.2.2.1, by rw [h1.2.2.2, hV]; simp⟩
      have HC : Hid (type_of% hc) := hc
      clear hc zmi hV hV2 hV3 HU S1 HL
      go_wp2_with (go_at_fn 84; refine HC.out.mono ?_; rintro e w' ⟨rfl, S2⟩; have S3 : Aside _ := S2; clear S2)
      go_roundg (i + (j - i))
      case measure => omega
      case rel => exact ⟨i, j - i, A, V3, V2, U1 ++ Z, rfl, by rw [show ((j - i : Nat) : Int) = (j : Int) - (i : Int) from by omega], hi1, by omega, hai, by omega, Nat.le_refl _, HU2, by exact StCh.cong S3.out (by simp [List.append_assoc])⟩
    · -- i = j
      subst hij
      have hne : ((i : Int) != (i : Int)) = false := by simp
      have hc := StCh.swapRange L enc g cb blk off cap (m - i) m i sz (X ++ A) U1 [] V1 (Z ++ Y) d0 w0 wr R (by have h1 := HU.out; simp; omega) (by have h1 := HU.out; simp; omega) (by have h1 := HU.out; omega) (by have h1 := HU.out; omega)
        (by have h1 := HL.out; simp; omega) HE.out.2.2.2.2 hbig (by have := S1.out; simpa [List.append_assoc] using this)
      rw [zmi] at hc
      have HC : Hid (type_of% hc) := hc
      clear hc zmi S1 HL
      go_wp2_with (go_at_fn 84; refine HC.out.mono ?_; rintro e w' ⟨rfl, S2⟩; have S3 : Aside _ := S2; clear S2)
      go_end0
      refine ⟨rfl, ?_⟩
      have h1 := HU.out.2.2.2
      have e : X ++ V ++ U ++ Y = (X ++ A) ++ V1 ++ [] ++ U1 ++ (Z ++ Y) := by
        rw [List.append_assoc X V U, h1]; simp [List.append_assoc]
      rw [e]
      exact S3.out
    · -- j < i: the first j of U1 go to the end
      have hne : ((i : Int) != (j : Int)) = true := by rw [bne_iff_ne]; omega
      have hgt : (j : Int) < (i : Int) := by omega
      obtain ⟨U2, U3, hU, hU2⟩ : ∃ U2 U3, U1 = U2 ++ U3 ∧ U2.length = j := ⟨U1.take j, U1.drop j, (List.take_append_drop _ _).symm, by have := HU.out; simp; omega⟩
      have hU3 : U3.length = i - j := by have h1 := HU.out; rw [hU] at h1; simp at h1; omega
      have hc := StCh.swapRange L enc g cb blk off cap (m - i) m j sz (X ++ A) U2 U3 V1 (Z ++ Y) d0 w0 wr R (by have h1 := HU.out; simp; omega) (by have h1 := HU.out; simp; omega) hU2.symm (by have h1 := HU.out; omega)
        (by have h1 := HL.out; rw [hU] at h1; simp at h1 ⊢; omega) HE.out.2.2.2.2 hbig (by have := S1.out; rw [hU] at this; simpa [List.append_assoc] using this)
      rw [zmi] at hc
      have HU4 : Hid (U3.length = i - j ∧ U2.length = j ∧ X.length + (A ++ V1).length + (i - j) = m ∧ V ++ U = (A ++ V1) ++ U2 ++ U3 ++ Z) := by
        have h1 := HU.out
        exact ⟨hU3, hU2, by simp; omega, by rw [h1.2.2.2, hU]; simp⟩
      have HC : Hid (type_of% hc) := hc
      clear hc zmi hU hU2 hU3 HU S1 HL
      go_wp2_with (go_at_fn 84; refine HC.out.mono ?_; rintro e w' ⟨rfl, S2⟩; have S3 : Aside _ := S2; clear S2)
      go_roundg (i - j + j)
      case measure => omega
      case rel => exact ⟨i - j, j, A ++ V1, U3, U2, Z, by rw [show ((i - j : Nat) : Int) = (i : Int) - (j : Int) from by omega], rfl, by omega, hj1, by omega, hmj, Nat.le_refl _, HU4, by exact StCh.cong S3.out (by simp [List.append_assoc])⟩
end Go.Proofs.Ytgjkidclpehnjaa

namespace Go.Proofs.Ytgjkidclpehnjaa
open Go.Shelf Go.RowKit Go.Lib Go.Sort
variable {P : Program} {α : Type} [Inhabited α]

set_option maxHeartbeats 8000000 in
set_option maxRecDepth 1000000 in
/-- The merge where the first run has one element. -/
theorem StCh.symFirst {k : Nat} (L : StChF P k) (enc : α → List Value) (cf : α → α → Int) (hO : SWO (ltOf cf)) (g : Nat) (cb : Array Value) (blk off cap sz : Nat) (d0 : Array α) (w0 : World) (R : RowK enc k w0 blk off d0)
    (eg : ∀ args w, (callFunc g args).run P w = .ok (.enter g args) w) (hcmp : CmpLays P g cb enc k cf blk off sz w0) (hs : d0.size = sz) (hbig : sz < 4611686018427387904)
    (a m b : Nat) (X V Y : List α) (x : α) (w : World) (ha : a = X.length) (hm : m = X.length + 1) (hb : b = X.length + 1 + V.length) (hV : 0 < V.length) (hz : sz = X.length + 1 + V.length + Y.length)
    (sV : SortedL (ltOf cf) V) (S : SWK enc k w0 blk off (X ++ x :: (V ++ Y)).toArray w) :
    Calls P 53 #[.slice (some ⟨blk, off, none⟩) sz cap, .int .i64 a, .int .i64 m, .int .i64 b, .func (.func g) #[] cb] w fun e w' => e = .returned (.tuple #[]) ∧
      ∃ W, SWK enc k w0 blk off (X ++ W ++ Y).toArray w' ∧ SortedL (ltOf cf) W ∧ Stab (ltOf cf) ([x] ++ V) W := by
  have mixed := L.mixed; have t3 := L.t3; have a3 := L.a3; have z3 := L.z3; have v3 := L.v3; have t4 := L.t4; have a4 := L.a4; have z4 := L.z4; have v4 := L.v4; have t22 := L.t22; have a22 := L.a22; have z22 := L.z22; have v22 := L.v22; have t25 := L.t25; have a25 := L.a25; have z25 := L.z25; have v25 := L.v25; have aE := L.aE; have zE := L.zE; have t84 := L.t84; have a84 := L.a84; have z84 := L.z84; have v84 := L.v84; have u3 := run_underlying L.t3; have u84 := run_underlying L.t84
  have HC : Aside _ := hcmp
  have HO : Aside _ := hO
  have HV : Aside _ := sV
  obtain ⟨l, hl⟩ : ∃ l, l = X ++ x :: (V ++ Y) := ⟨_, rfl⟩
  rw [← hl] at S
  have HE : Hid (a = X.length ∧ m = X.length + 1 ∧ b = X.length + 1 + V.length ∧ sz = X.length + 1 + V.length + Y.length ∧ d0.size = sz ∧ l = X ++ x :: (V ++ Y) ∧ l.toArray.size = sz) :=
    ⟨ha, hm, hb, hz, hs, hl, by rw [hl]; simp; omega⟩
  have S0 : Aside (SWK enc k w0 blk off l.toArray w) := S
  have b1 : a + 1 ≤ m := by omega
  have b1' : m ≤ a + 1 := by omega
  have b2 : m < b := by omega
  have b3 : b ≤ sz := by omega
  have h1 : ((m : Int) - (a : Int) == 1) = true := by rw [beq_iff_eq]; omega
  clear S ha hm hb hz hs hcmp hl hO sV
  go_enter L.fsym, Try.ntmps53
  go_wp2
  go_loopg [10, 11] (b - m) (fun gk s10 s11 wr => ∃ i j : Nat, s10 = .int .i64 i ∧ s11 = .int .i64 j ∧ m ≤ i ∧ i ≤ j ∧ j ≤ b ∧ j - i ≤ gk ∧ Aside (SWK enc k w0 blk off l.toArray wr) ∧
    Aside ((i = m ∨ ltOf cf l.toArray[i - 1]! l.toArray[a]! = true) ∧ (j = b ∨ ltOf cf l.toArray[j]! l.toArray[a]! = false)))
  case atStart => exact ⟨m, b, rfl, rfl, Nat.le_refl _, by omega, Nat.le_refl _, Nat.le_refl _, S0, ⟨.inl rfl, .inl rfl⟩⟩
  case round =>
    clear S0
    obtain ⟨i, j, rfl, rfl, hmi, hij, hjb, hg, S1, I⟩ := hrel
    by_cases hlt : i < j
    · obtain ⟨h, hh⟩ : ∃ h, h = (i + j) / 2 := ⟨_, rfl⟩
      have hz1 : ((i : Int) + (j : Int)) / 2 = (h : Int) := by omega
      have hih : i ≤ h := by omega
      have hhj : h < j := by omega
      clear hh
      have hltz : (i : Int) < (j : Int) := by omega
      have hsz := HE.out.2.2.2.2.2.2
      have l1 := S1.out.ld R (by rw [hsz]; exact HE.out.2.2.2.2.1.symm) P h (by rw [hsz]; omega)
      have l2 := S1.out.ld R (by rw [hsz]; exact HE.out.2.2.2.2.1.symm) P a (by rw [hsz]; omega)
      obtain ⟨y, hy⟩ : ∃ y, y = l.toArray[h]! := ⟨_, rfl⟩
      obtain ⟨x1, hx1⟩ : ∃ y, y = l.toArray[a]! := ⟨_, rfl⟩
      rw [← hy] at l1
      rw [← hx1] at l2
      have hc := S1.out.cmp HC.out hsz y x1
      have HY : Hid (y = l.toArray[h]! ∧ x1 = l.toArray[a]!) := ⟨hy, hx1⟩
      clear hsz hy hx1
      have pa1 : (0 : Int) ≤ (h : Int) := by omega
      have ba1 : (h : Int) < (sz : Int) := by omega
      have pa2 : (0 : Int) ≤ (a : Int) := by omega
      have ba2 : (a : Int) < (sz : Int) := by omega
      by_cases hlv : cf y x1 < 0
      · have hdv : decide (cf y x1 < 0) = true := decide_eq_true hlv
        go_wp2_with fail
        go_quiet_grown (first | (go_at_fn g; refine Calls.grown_of (hc _ _)))
        have S2 : Aside (SWK enc k w0 blk off l.toArray (grow (wr.drewN nq) osq)) := S1.out.grown nq osq
        clear l1 l2 hc S1
        generalize grow (wr.drewN nq) osq = wv at S2 ⊢
        clear nq osq
        go_wp2
        go_roundg (j - (h + 1))
        case measure => omega
        case rel =>
          have I2 : Aside ((h + 1 = m ∨ ltOf cf l.toArray[h + 1 - 1]! l.toArray[a]! = true) ∧ (j = b ∨ ltOf cf l.toArray[j]! l.toArray[a]! = false)) := ⟨.inr (by rw [Nat.add_sub_cancel, ← HY.out.1, ← HY.out.2]; exact hdv), I.out.2⟩
          exact ⟨h + 1, j, by go_num, rfl, by omega, by omega, hjb, Nat.le_refl _, S2, I2⟩
      · have hdv : decide (cf y x1 < 0) = false := decide_eq_false hlv
        go_wp2_with fail
        go_quiet_grown (first | (go_at_fn g; refine Calls.grown_of (hc _ _)))
        have S2 : Aside (SWK enc k w0 blk off l.toArray (grow (wr.drewN nq) osq)) := S1.out.grown nq osq
        clear l1 l2 hc S1
        generalize grow (wr.drewN nq) osq = wv at S2 ⊢
        clear nq osq
        go_wp2
        go_roundg (h - i)
        case measure => omega
        case rel =>
          have I2 : Aside ((i = m ∨ ltOf cf l.toArray[i - 1]! l.toArray[a]! = true) ∧ (h = b ∨ ltOf cf l.toArray[h]! l.toArray[a]! = false)) := ⟨I.out.1, .inr (by rw [← HY.out.1, ← HY.out.2]; exact hdv)⟩
          exact ⟨i, h, rfl, rfl, hmi, hih, by omega, Nat.le_refl _, S2, I2⟩
    · obtain rfl : j = i := by omega
      -- the place is found: V = A ++ B
      obtain ⟨A, B, hAB, hA⟩ : ∃ A B, V = A ++ B ∧ A.length = j - m := ⟨V.take (j - m), V.drop (j - m), (List.take_append_drop _ _).symm, by have := HE.out; simp; omega⟩
      have ex : l.toArray[a]! = x := by
        have h := HE.out
        rw [h.2.2.2.2.2.1, h.1]; exact get_mid X x _
      have fin : SortedL (ltOf cf) (A ++ x :: B) ∧ Stab (ltOf cf) (x :: (A ++ B)) (A ++ x :: B) := by
        have h := HE.out
        refine insert_left HO.out x A B (by rw [← hAB]; exact HV.out) ?_ ?_
        · intro y hy
          obtain ⟨A', rfl⟩ := List.getLast?_eq_some_iff.1 hy
          have hI := I.out.1.resolve_left (by simp at hA; omega)
          rw [ex] at hI
          have e : l = (X ++ x :: A') ++ y :: (B ++ Y) := by rw [h.2.2.2.2.2.1, hAB]; simp
          have := get_mid (X ++ x :: A') y (B ++ Y)
          rw [← e, show (X ++ x :: A').length = j - 1 from by simp at hA ⊢; omega] at this
          rw [this] at hI
          exact hI
        · intro y hy
          cases B with
          | nil => cases hy
          | cons z B' =>
            have hz : z = y := by simpa using hy
            subst hz
            have hlen := congrArg List.length hAB
            have hI := I.out.2.resolve_left (by simp at hlen; omega)
            rw [ex] at hI
            have e : l = (X ++ x :: A) ++ z :: (B' ++ Y) := by rw [h.2.2.2.2.2.1, hAB]; simp
            have := get_mid (X ++ x :: A) z (B' ++ Y)
            rw [← e, show (X ++ x :: A).length = j from by simp at hA ⊢; omega] at this
            rw [this] at hI
            exact hI
      have FIN : Hid (SortedL (ltOf cf) (A ++ x :: B) ∧ Stab (ltOf cf) ([x] ++ V) (A ++ x :: B)) := ⟨fin.1, by rw [hAB]; simpa using fin.2⟩
      have S2 : Aside (SWK enc k w0 blk off (X ++ x :: (A ++ (B ++ Y))).toArray wr) := by
        have := S1.out; rw [HE.out.2.2.2.2.2.1, hAB] at this; exact StCh.cong this (by simp)
      have HA : Hid (A.length = j - m ∧ V = A ++ B) := ⟨hA, hAB⟩
      have hnlt : ¬ ((j : Int) < (j : Int)) := by omega
      clear ex fin hA hAB S1 I HV HO hlt
      go_wp2
      go_loopg [13] (j - m) (fun gk s13 wq => ∃ (t : Nat) (A1 A2 : List α), s13 = .int .i64 t ∧ a ≤ t ∧ t + 1 ≤ j ∧ j - 1 - t ≤ gk ∧ Hid (A = A1 ++ A2 ∧ A1.length = t - a) ∧ Aside (SWK enc k w0 blk off ((X ++ A1) ++ x :: (A2 ++ (B ++ Y))).toArray wq))
      case atStart => exact ⟨a, [], A, rfl, Nat.le_refl _, by omega, by omega, ⟨rfl, by simp⟩, by rw [List.append_nil]; exact S2⟩
      case round =>
        rename_i wr0 _ _ _ _ _ _ _
        clear S2
        obtain ⟨t, A1, A2, rfl, hat, htj, hg2, HT, S3⟩ := hrel
        by_cases hlt2 : t < j - 1
        · have hlt2z : (t : Int) < (j : Int) - 1 := by omega
          obtain ⟨u, A3, hA2⟩ : ∃ u A3, A2 = u :: A3 := by
            cases A2 with
            | nil => exfalso; have h1 := HT.out; have h2 := HA.out; rw [h1.1] at h2; simp at h2; omega
            | cons u A3 => exact ⟨u, A3, rfl⟩
          subst hA2
          have hsz' : ((X ++ A1) ++ x :: ([] ++ u :: (A3 ++ (B ++ Y)))).toArray.size = d0.size := by
            have h1 := HT.out; have h2 := HA.out; have h3 := HE.out
            have h4 := congrArg List.length h2.2
            rw [h1.1] at h4; simp at h4 ⊢; omega
          have hbnd : ((X ++ A1) ++ x :: ([] ++ u :: (A3 ++ (B ++ Y)))).toArray.size = sz := hsz'.trans HE.out.2.2.2.2.1
          have hi0 : t = (X ++ A1).length := by have h1 := HT.out; have h3 := HE.out; simp; omega
          have S4 : Aside (SWK enc k w0 blk off ((X ++ A1) ++ x :: ([] ++ u :: (A3 ++ (B ++ Y)))).toArray wr) := S3
          have gi : ((X ++ A1) ++ x :: ([] ++ u :: (A3 ++ (B ++ Y)))).toArray[t]! = x := by rw [hi0]; exact get_mid _ _ _
          have gj : ((X ++ A1) ++ x :: ([] ++ u :: (A3 ++ (B ++ Y)))).toArray[t + 1]! = u := by
            have hl : (X ++ A1).length + 1 = ((X ++ A1) ++ [x]).length := by simp only [List.length_append, List.length_cons, List.length_nil]
            have := get_mid ((X ++ A1) ++ [x]) u (A3 ++ (B ++ Y))
            have e : ((X ++ A1) ++ [x]) ++ u :: (A3 ++ (B ++ Y)) = ((X ++ A1) ++ x :: ([] ++ u :: (A3 ++ (B ++ Y)))) := by simp
            rw [e] at this
            rw [hi0, hl]; exact this
          have hsw := swp_split (X ++ A1) [] (A3 ++ (B ++ Y)) x u t (t + 1) hi0 (by rw [hi0]; simp)
          have S5 := S4.out.swapped R t (t + 1) (by omega) (by omega)
          have l1 := S4.out.ld1 R hsz' P t (by omega)
          have l2 := S4.out.ld1 R hsz' P (t + 1) (by omega)
          have s1 := S4.out.st1 R hsz' P t (by omega) u
          have s2 := S4.out.st2 R hsz' P t (t + 1) (by omega) (by omega) u x
          rw [hsw, gi, gj] at S5
          rw [gi] at l1
          rw [gj] at l2
          have S5' : Aside _ := S5
          have HW : Hid ((X ++ A1) ++ u :: ([] ++ x :: (A3 ++ (B ++ Y))) = (X ++ (A1 ++ [u])) ++ x :: (A3 ++ (B ++ Y))) := by show _ = _; simp
          have HT' : Hid (A = (A1 ++ [u]) ++ A3 ∧ (A1 ++ [u]).length = t + 1 - a) := by
            have h1 := HT.out
            exact ⟨by rw [h1.1]; simp, by simp; omega⟩
          clear hsz' hbnd hi0 S3 S4 gi gj hsw S5 HT
          have n1 : (enc x).length = k := R.hk _
          have n2 : (enc u).length = k := R.hk _
          generalize enc x = cI at S5' l1 s2 n1
          generalize enc u = cJ at S5' l2 s1 s2 n2
          have ea : ((t : Int)).toNat = t := by omega
          have pa : (0 : Int) ≤ (t : Int) := by omega
          have ba : (t : Int) < (sz : Int) := by omega
          have ec : ((t : Int) + 1).toNat = t + 1 := by omega
          have pc : (0 : Int) ≤ (t : Int) + 1 := by omega
          have bc : (t : Int) + 1 < (sz : Int) := by omega
          have rc : IntKind.i64.wrap ((t : Int) + 1) = (t : Int) + 1 := by rw [IntKind.wrap_i64]; omega
          go_wp2_with fail
          go_big_region_o
          clear l1 l2 s1 s2 ea ec rc
          generalize (wr.drew.setCells blk (off + t * k) cJ).setCells blk (off + (t + 1) * k) cI = w2 at S5' ⊢
          go_wp2
          go_roundg (j - 1 - (t + 1))
          case measure => omega
          case rel => exact ⟨t + 1, A1 ++ [u], A3, by go_num, by omega, by omega, Nat.le_refl _, HT', by rw [← HW.out]; exact S5'⟩
        · have hnlt2 : ¬ ((t : Int) < (j : Int) - 1) := by omega
          go_wp2
          refine bodyPost_ret (results_none rfl _ _ _) rfl ?_
          have h1 := HT.out; have h2 := HA.out
          have hA2 : A2 = [] := by
            have := congrArg List.length h1.1; simp at this; exact List.eq_nil_of_length_eq_zero (by omega)
          have S5 := S3.out
          rw [hA2] at h1 S5
          rw [List.append_nil] at h1
          rw [← h1.1] at S5
          exact ⟨rfl, A ++ x :: B, by simpa using S5, FIN.out.1, FIN.out.2⟩
end Go.Proofs.Ytgjkidclpehnjaa

namespace Go.Proofs.Ytgjkidclpehnjaa
open Go.Shelf Go.RowKit Go.Lib Go.Sort
variable {P : Program} {α : Type} [Inhabited α]

set_option maxHeartbeats 8000000 in
set_option maxRecDepth 1000000 in
/-- The merge where the second run has one element. -/
theorem StCh.symLast {k : Nat} (L : StChF P k) (enc : α → List Value) (cf : α → α → Int) (hO : SWO (ltOf cf)) (g : Nat) (cb : Array Value) (blk off cap sz : Nat) (d0 : Array α) (w0 : World) (R : RowK enc k w0 blk off d0)
    (eg : ∀ args w, (callFunc g args).run P w = .ok (.enter g args) w) (hcmp : CmpLays P g cb enc k cf blk off sz w0) (hs : d0.size = sz) (hbig : sz < 4611686018427387904)
    (a m b : Nat) (X U Y : List α) (x : α) (w : World) (ha : a = X.length) (hm : m = X.length + U.length) (hb : b = X.length + U.length + 1) (hU : 1 < U.length) (hz : sz = X.length + U.length + 1 + Y.length)
    (sU : SortedL (ltOf cf) U) (S : SWK enc k w0 blk off (X ++ U ++ x :: Y).toArray w) :
    Calls P 53 #[.slice (some ⟨blk, off, none⟩) sz cap, .int .i64 a, .int .i64 m, .int .i64 b, .func (.func g) #[] cb] w fun e w' => e = .returned (.tuple #[]) ∧
      ∃ W, SWK enc k w0 blk off (X ++ W ++ Y).toArray w' ∧ SortedL (ltOf cf) W ∧ Stab (ltOf cf) (U ++ [x]) W := by
  have mixed := L.mixed; have t3 := L.t3; have a3 := L.a3; have z3 := L.z3; have v3 := L.v3; have t4 := L.t4; have a4 := L.a4; have z4 := L.z4; have v4 := L.v4; have t22 := L.t22; have a22 := L.a22; have z22 := L.z22; have v22 := L.v22; have t25 := L.t25; have a25 := L.a25; have z25 := L.z25; have v25 := L.v25; have aE := L.aE; have zE := L.zE; have t84 := L.t84; have a84 := L.a84; have z84 := L.z84; have v84 := L.v84; have u3 := run_underlying L.t3; have u84 := run_underlying L.t84
  have HC : Aside _ := hcmp
  have HO : Aside _ := hO
  have HV : Aside _ := sU
  obtain ⟨l, hl⟩ : ∃ l, l = X ++ U ++ x :: Y := ⟨_, rfl⟩
  rw [← hl] at S
  have HE : Hid (a = X.length ∧ m = X.length + U.length ∧ b = X.length + U.length + 1 ∧ sz = X.length + U.length + 1 + Y.length ∧ d0.size = sz ∧ l = X ++ U ++ x :: Y ∧ l.toArray.size = sz) :=
    ⟨ha, hm, hb, hz, hs, hl, by rw [hl]; simp; omega⟩
  have S0 : Aside (SWK enc k w0 blk off l.toArray w) := S
  have b1 : a + 1 < m := by omega
  have b2 : m + 1 ≤ b := by omega
  have b2' : b ≤ m + 1 := by omega
  have b3 : b ≤ sz := by omega
  have h1 : ((m : Int) - (a : Int) == 1) = false := by rw [beq_eq_false_iff_ne]; omega
  have h2 : ((b : Int) - (m : Int) == 1) = true := by rw [beq_iff_eq]; omega
  clear S ha hm hb hz hs hcmp hl hO sU
  go_enter L.fsym, Try.ntmps53
  go_wp2
  go_loopg [14, 15] (m - a) (fun gk s14 s15 wr => ∃ i j : Nat, s14 = .int .i64 i ∧ s15 = .int .i64 j ∧ a ≤ i ∧ i ≤ j ∧ j ≤ m ∧ j - i ≤ gk ∧ Aside (SWK enc k w0 blk off l.toArray wr) ∧
    Aside ((i = a ∨ ltOf cf l.toArray[m]! l.toArray[i - 1]! = false) ∧ (j = m ∨ ltOf cf l.toArray[m]! l.toArray[j]! = true)))
  case atStart => exact ⟨a, m, rfl, rfl, Nat.le_refl _, by omega, Nat.le_refl _, Nat.le_refl _, S0, ⟨.inl rfl, .inl rfl⟩⟩
  case round =>
    clear S0
    obtain ⟨i, j, rfl, rfl, hmi, hij, hjb, hg, S1, I⟩ := hrel
    by_cases hlt : i < j
    · obtain ⟨h, hh⟩ : ∃ h, h = (i + j) / 2 := ⟨_, rfl⟩
      have hz1 : ((i : Int) + (j : Int)) / 2 = (h : Int) := by omega
      have hih : i ≤ h := by omega
      have hhj : h < j := by omega
      clear hh
      have hltz : (i : Int) < (j : Int) := by omega
      have hsz := HE.out.2.2.2.2.2.2
      have l1 := S1.out.ld R (by rw [hsz]; exact HE.out.2.2.2.2.1.symm) P h (by rw [hsz]; omega)
      have l2 := S1.out.ld R (by rw [hsz]; exact HE.out.2.2.2.2.1.symm) P m (by rw [hsz]; omega)
      obtain ⟨y, hy⟩ : ∃ y, y = l.toArray[h]! := ⟨_, rfl⟩
      obtain ⟨x1, hx1⟩ : ∃ y, y = l.toArray[m]! := ⟨_, rfl⟩
      rw [← hy] at l1
      rw [← hx1] at l2
      have hc := S1.out.cmp HC.out hsz x1 y
      have HY : Hid (y = l.toArray[h]! ∧ x1 = l.toArray[m]!) := ⟨hy, hx1⟩
      clear hsz hy hx1
      have pa1 : (0 : Int) ≤ (h : Int) := by omega
      have ba1 : (h : Int) < (sz : Int) := by omega
      have pa2 : (0 : Int) ≤ (m : Int) := by omega
      have ba2 : (m : Int) < (sz : Int) := by omega
      by_cases hlv : cf x1 y < 0
      · have hdv : decide (cf x1 y < 0) = true := decide_eq_true hlv
        go_wp2_with fail
        go_quiet_grown (first | (go_at_fn g; refine Calls.grown_of (hc _ _)))
        have S2 : Aside (SWK enc k w0 blk off l.toArray (grow (wr.drewN nq) osq)) := S1.out.grown nq osq
        clear l1 l2 hc S1
        generalize grow (wr.drewN nq) osq = wv at S2 ⊢
        clear nq osq
        go_wp2
        go_roundg (h - i)
        case measure => omega
        case rel =>
          have I2 : Aside ((i = a ∨ ltOf cf l.toArray[m]! l.toArray[i - 1]! = false) ∧ (h = m ∨ ltOf cf l.toArray[m]! l.toArray[h]! = true)) := ⟨I.out.1, .inr (by rw [← HY.out.1, ← HY.out.2]; exact hdv)⟩
          exact ⟨i, h, rfl, rfl, hmi, hih, by omega, Nat.le_refl _, S2, I2⟩
      · have hdv : decide (cf x1 y < 0) = false := decide_eq_false hlv
        go_wp2_with fail
        go_quiet_grown (first | (go_at_fn g; refine Calls.grown_of (hc _ _)))
        have S2 : Aside (SWK enc k w0 blk off l.toArray (grow (wr.drewN nq) osq)) := S1.out.grown nq osq
        clear l1 l2 hc S1
        generalize grow (wr.drewN nq) osq = wv at S2 ⊢
        clear nq osq
        go_wp2
        go_roundg (j - (h + 1))
        case measure => omega
        case rel =>
          have I2 : Aside ((h + 1 = a ∨ ltOf cf l.toArray[m]! l.toArray[h + 1 - 1]! = false) ∧ (j = m ∨ ltOf cf l.toArray[m]! l.toArray[j]! = true)) := ⟨.inr (by rw [Nat.add_sub_cancel, ← HY.out.1, ← HY.out.2]; exact hdv), I.out.2⟩
          exact ⟨h + 1, j, by go_num, rfl, by omega, by omega, hjb, Nat.le_refl _, S2, I2⟩
    · obtain rfl : j = i := by omega
      -- the place is found: U = A ++ B
      obtain ⟨A, B, hAB, hA⟩ : ∃ A B, U = A ++ B ∧ A.length = j - a := ⟨U.take (j - a), U.drop (j - a), (List.take_append_drop _ _).symm, by have := HE.out; simp; omega⟩
      have ex : l.toArray[m]! = x := by
        have h := HE.out
        rw [h.2.2.2.2.2.1, h.2.1, ← List.length_append]; exact get_mid (X ++ U) x _
      have fin : SortedL (ltOf cf) (A ++ x :: B) ∧ Stab (ltOf cf) ((A ++ B) ++ [x]) (A ++ x :: B) := by
        have h := HE.out
        refine insert_right HO.out x A B (by rw [← hAB]; exact HV.out) ?_ ?_
        · intro y hy
          cases B with
          | nil => cases hy
          | cons z B' =>
            have hz : z = y := by simpa using hy
            subst hz
            have hlen := congrArg List.length hAB
            have hI := I.out.2.resolve_left (by simp at hlen; omega)
            rw [ex] at hI
            have e : l = (X ++ A) ++ z :: (B' ++ x :: Y) := by rw [h.2.2.2.2.2.1, hAB]; simp
            have := get_mid (X ++ A) z (B' ++ x :: Y)
            rw [← e, show (X ++ A).length = j from by simp; omega] at this
            rw [this] at hI
            exact hI
        · intro y hy
          obtain ⟨A', rfl⟩ := List.getLast?_eq_some_iff.1 hy
          have hI := I.out.1.resolve_left (by simp at hA; omega)
          rw [ex] at hI
          have e : l = (X ++ A') ++ y :: (B ++ x :: Y) := by rw [h.2.2.2.2.2.1, hAB]; simp
          have := get_mid (X ++ A') y (B ++ x :: Y)
          rw [← e, show (X ++ A').length = j - 1 from by simp at hA ⊢; omega] at this
          rw [this] at hI
          exact hI
      have FIN : Hid (SortedL (ltOf cf) (A ++ x :: B) ∧ Stab (ltOf cf) (U ++ [x]) (A ++ x :: B)) := ⟨fin.1, by rw [hAB]; exact fin.2⟩
      have S2 : Aside (SWK enc k w0 blk off ((X ++ A ++ B) ++ x :: ([] ++ Y)).toArray wr) := by
        have := S1.out; rw [HE.out.2.2.2.2.2.1, hAB] at this; exact StCh.cong this (by simp)
      have HA : Hid (A.length = j - a ∧ U = A ++ B) := ⟨hA, hAB⟩
      have hnlt : ¬ ((j : Int) < (j : Int)) := by omega
      clear ex fin hA hAB S1 I HV HO hlt
      go_wp2
      go_loopg [17] (m - j) (fun gk s17 wq => ∃ (t : Nat) (B1 B2 : List α), s17 = .int .i64 t ∧ j ≤ t ∧ t ≤ m ∧ t - j ≤ gk ∧ Hid (B = B1 ++ B2 ∧ B1.length = t - j) ∧ Aside (SWK enc k w0 blk off ((X ++ A ++ B1) ++ x :: (B2 ++ Y)).toArray wq))
      case atStart => exact ⟨m, B, [], rfl, hjb, Nat.le_refl _, Nat.le_refl _, ⟨by simp, by have h1 := HA.out; have h3 := HE.out; have h4 := congrArg List.length h1.2; simp at h4; omega⟩, S2⟩
      case round =>
        clear S2
        obtain ⟨t, B1, B2, rfl, hat, htj, hg2, HT, S3⟩ := hrel
        by_cases hlt2 : j < t
        · have hlt2z : (j : Int) < (t : Int) := by omega
          obtain ⟨B0, u, hB1⟩ : ∃ B0 u, B1 = B0 ++ [u] := by
            rcases List.eq_nil_or_concat B1 with h | ⟨B0, u, h⟩
            · exfalso; have h1 := HT.out; rw [h] at h1; simp at h1; omega
            · exact ⟨B0, u, by rw [h, List.concat_eq_append]⟩
          subst hB1
          have hsz' : ((X ++ A ++ B0) ++ u :: ([] ++ x :: (B2 ++ Y))).toArray.size = d0.size := by
            have h1 := HT.out; have h2 := HA.out; have h3 := HE.out
            have h4 := congrArg List.length h2.2
            rw [h1.1] at h4; simp at h4 ⊢; omega
          have hbnd : ((X ++ A ++ B0) ++ u :: ([] ++ x :: (B2 ++ Y))).toArray.size = sz := hsz'.trans HE.out.2.2.2.2.1
          obtain ⟨q, hq⟩ : ∃ q, t = q + 1 := ⟨t - 1, by omega⟩
          subst hq
          have hi0 : q = (X ++ A ++ B0).length := by have h1 := HT.out; have h2 := HA.out; have h3 := HE.out; simp at h1 ⊢; omega
          have S4 : Aside (SWK enc k w0 blk off ((X ++ A ++ B0) ++ u :: ([] ++ x :: (B2 ++ Y))).toArray wr) := by
            have e : ((X ++ A ++ B0) ++ u :: ([] ++ x :: (B2 ++ Y))) = (X ++ A ++ (B0 ++ [u])) ++ x :: (B2 ++ Y) := by simp
            rw [e]; exact S3
          have gi : ((X ++ A ++ B0) ++ u :: ([] ++ x :: (B2 ++ Y))).toArray[q]! = u := by rw [hi0]; exact get_mid _ _ _
          have gj : ((X ++ A ++ B0) ++ u :: ([] ++ x :: (B2 ++ Y))).toArray[q + 1]! = x := by
            have hl : (X ++ A ++ B0).length + 1 = ((X ++ A ++ B0) ++ [u]).length := by simp only [List.length_append, List.length_cons, List.length_nil]
            have := get_mid ((X ++ A ++ B0) ++ [u]) x (B2 ++ Y)
            have e : ((X ++ A ++ B0) ++ [u]) ++ x :: (B2 ++ Y) = ((X ++ A ++ B0) ++ u :: ([] ++ x :: (B2 ++ Y))) := by simp
            rw [e] at this
            rw [hi0, hl]; exact this
          have hsw := swp_split' (X ++ A ++ B0) [] (B2 ++ Y) u x q (q + 1) hi0 (by rw [hi0]; simp)
          have S5 := S4.out.swapped R (q + 1) q (by omega) (by omega)
          have l1 := S4.out.ld1 R hsz' P (q + 1) (by omega)
          have l2 := S4.out.ld1 R hsz' P q (by omega)
          have s1 := S4.out.st1 R hsz' P (q + 1) (by omega) u
          have s2 := S4.out.st2 R hsz' P (q + 1) q (by omega) (by omega) u x
          rw [hsw, gi, gj] at S5
          rw [gj] at l1
          rw [gi] at l2
          have S5' : Aside _ := S5
          have HW : Hid ((X ++ A ++ B0) ++ x :: ([] ++ u :: (B2 ++ Y)) = (X ++ A ++ B0) ++ x :: ((u :: B2) ++ Y)) := by show _ = _; simp
          have HT' : Hid (B = B0 ++ (u :: B2) ∧ B0.length = q - j) := by
            have h1 := HT.out
            exact ⟨by rw [h1.1]; simp, by have := h1.2; simp at this; omega⟩
          clear hsz' hbnd hi0 S3 S4 gi gj hsw S5 HT
          have n1 : (enc x).length = k := R.hk _
          have n2 : (enc u).length = k := R.hk _
          generalize enc x = cI at S5' l1 s2 n1
          generalize enc u = cJ at S5' l2 s1 s2 n2
          have zq : (((q + 1 : Nat) : Int)) = (q : Int) + 1 := by omega
          rw [zq] at hlt2z
          have ea : ((q : Int) + 1).toNat = q + 1 := by omega
          have pa : (0 : Int) ≤ (q : Int) + 1 := by omega
          have ba : (q : Int) + 1 < (sz : Int) := by omega
          have rq : IntKind.i64.wrap ((q : Int)) = (q : Int) := by rw [IntKind.wrap_i64]; omega
          have rq1 : IntKind.i64.wrap ((q : Int) + 1 - 1) = (q : Int) := by rw [IntKind.wrap_i64]; omega
          have ec : ((q : Int)).toNat = q := by omega
          have pc : (0 : Int) ≤ (q : Int) := by omega
          have bc : (q : Int) < (sz : Int) := by omega
          clear zq
          go_wp2_with fail
          go_big_region_o
          clear l1 l2 s1 s2 ea ec rq rq1
          generalize (wr.drew.setCells blk (off + (q + 1) * k) cJ).setCells blk (off + q * k) cI = w2 at S5' ⊢
          go_wp2
          go_roundg (q - j)
          case measure => omega
          case rel => exact ⟨q, B0, u :: B2, by first | rfl | go_num, by omega, by omega, Nat.le_refl _, HT', by rw [← HW.out]; exact S5'⟩
        · have hnlt2 : ¬ ((j : Int) < (t : Int)) := by omega
          go_wp2
          refine bodyPost_ret (results_none rfl _ _ _) rfl ?_
          have h1 := HT.out; have h2 := HA.out
          have hB1 : B1 = [] := List.eq_nil_of_length_eq_zero (by omega)
          have S5 := S3.out
          rw [hB1] at h1 S5
          rw [List.nil_append] at h1
          rw [← h1.1] at S5
          exact ⟨rfl, A ++ x :: B, by simpa using S5, FIN.out.1, FIN.out.2⟩
end Go.Proofs.Ytgjkidclpehnjaa

namespace Go.Proofs.Ytgjkidclpehnjaa
open Go.Shelf Go.RowKit Go.Lib Go.Sort
variable {P : Program} {α : Type} [Inhabited α]

set_option maxHeartbeats 64000000 in
set_option maxRecDepth 1000000 in
/-- Two sorted runs merged. -/
theorem StCh.symMerge {k : Nat} (L : StChF P k) (enc : α → List Value) (cf : α → α → Int) (hO : SWO (ltOf cf)) (g : Nat) (cb : Array Value) (blk off cap sz : Nat) (d0 : Array α) (w0 : World) (R : RowK enc k w0 blk off d0)
    (eg : ∀ args w, (callFunc g args).run P w = .ok (.enter g args) w) (hcmp : CmpLays P g cb enc k cf blk off sz w0) (hs : d0.size = sz) (hbig : sz < 4611686018427387904) :
    ∀ (N a m b : Nat) (X U V Y : List α) (w : World), b - a ≤ N → a = X.length → m = X.length + U.length → b = X.length + U.length + V.length → 0 < U.length → 0 < V.length → sz = X.length + U.length + V.length + Y.length →
    SortedL (ltOf cf) U → SortedL (ltOf cf) V → SWK enc k w0 blk off (X ++ U ++ V ++ Y).toArray w →
    Calls P 53 #[.slice (some ⟨blk, off, none⟩) sz cap, .int .i64 a, .int .i64 m, .int .i64 b, .func (.func g) #[] cb] w fun e w' => e = .returned (.tuple #[]) ∧
      ∃ W, SWK enc k w0 blk off (X ++ W ++ Y).toArray w' ∧ SortedL (ltOf cf) W ∧ Stab (ltOf cf) (U ++ V) W := by
  intro N
  induction N using Nat.strongRecOn with
  | _ N IH =>
  intro a m b X U V Y w hN ha hm hb hU hV hz sU sV S
  by_cases hU1 : U.length = 1
  · obtain ⟨x, rfl⟩ : ∃ x, U = [x] := List.length_eq_one_iff.1 hU1
    exact StCh.symFirst L enc cf hO g cb blk off cap sz d0 w0 R eg hcmp hs hbig a m b X V Y x w ha (by simpa using hm) (by simpa using hb) hV (by simpa using hz) sV (by simpa using S)
  by_cases hV1 : V.length = 1
  · obtain ⟨x, rfl⟩ : ∃ x, V = [x] := List.length_eq_one_iff.1 hV1
    exact StCh.symLast L enc cf hO g cb blk off cap sz d0 w0 R eg hcmp hs hbig a m b X U Y x w ha hm (by simpa using hb) (by omega) (by simpa using hz) sU (by simpa using S)
  have ih : ∀ n, n < b - a → ∀ (a m b : Nat) (X U V Y : List α) (w : World), b - a ≤ n → a = X.length → m = X.length + U.length → b = X.length + U.length + V.length → 0 < U.length → 0 < V.length → sz = X.length + U.length + V.length + Y.length →
    SortedL (ltOf cf) U → SortedL (ltOf cf) V → SWK enc k w0 blk off (X ++ U ++ V ++ Y).toArray w →
    Calls P 53 #[.slice (some ⟨blk, off, none⟩) sz cap, .int .i64 a, .int .i64 m, .int .i64 b, .func (.func g) #[] cb] w fun e w' => e = .returned (.tuple #[]) ∧
      ∃ W, SWK enc k w0 blk off (X ++ W ++ Y).toArray w' ∧ SortedL (ltOf cf) W ∧ Stab (ltOf cf) (U ++ V) W := fun n hn => IH n (by omega)
  have IHA : Aside _ := ih
  clear ih IH
  have ih := fun n hn => IHA.out n hn
  have mixed := L.mixed; have t3 := L.t3; have a3 := L.a3; have z3 := L.z3; have v3 := L.v3; have t4 := L.t4; have a4 := L.a4; have z4 := L.z4; have v4 := L.v4; have t22 := L.t22; have a22 := L.a22; have z22 := L.z22; have v22 := L.v22; have t25 := L.t25; have a25 := L.a25; have z25 := L.z25; have v25 := L.v25; have aE := L.aE; have zE := L.zE; have t84 := L.t84; have a84 := L.a84; have z84 := L.z84; have v84 := L.v84; have u3 := run_underlying L.t3; have u84 := run_underlying L.t84
  have e72 : ∀ args w, (callFunc 74 args).run P w = .ok (.enter 74 args) w := enters_of L.frot (by kernel_rfl) rfl
  have e50 : ∀ args w, (callFunc 53 args).run P w = .ok (.enter 53 args) w := enters_of L.fsym (by kernel_rfl) rfl
  have HC : Aside _ := hcmp
  have HO : Aside _ := hO
  have HSU : Aside _ := sU
  have HSV : Aside _ := sV
  obtain ⟨l, hl⟩ : ∃ l, l = X ++ U ++ V ++ Y := ⟨_, rfl⟩
  rw [← hl] at S
  have HL : Hid (l = X ++ U ++ V ++ Y) := hl
  have HE : Hid (l.toArray.size = sz ∧ d0.size = sz) := ⟨by rw [hl]; simp; omega, hs⟩
  have HM : Hid (a = X.length ∧ m = X.length + U.length ∧ b = X.length + U.length + V.length ∧ sz = X.length + U.length + V.length + Y.length) := ⟨ha, hm, hb, hz⟩
  have S0 : Aside (SWK enc k w0 blk off l.toArray w) := S
  obtain ⟨mid, hmid⟩ : ∃ mid, mid = (a + b) / 2 := ⟨_, rfl⟩
  have zmid : ((a : Int) + (b : Int)) / 2 = (mid : Int) := by omega
  have b1 : a + 1 < m := by omega
  have b2 : m + 1 < b := by omega
  have b3 : b ≤ sz := by omega
  have b4 : 2 * mid ≤ a + b := by omega
  have b5 : a + b ≤ 2 * mid + 1 := by omega
  have h1 : ((m : Int) - (a : Int) == 1) = false := by rw [beq_eq_false_iff_ne]; omega
  have h2 : ((b : Int) - (m : Int) == 1) = false := by rw [beq_eq_false_iff_ne]; omega
  clear S ha hm hb hU hV hz hs hcmp hl hO sU sV hU1 hV1 hmid hN
  have IH2 : Aside _ := ih
  clear ih IHA
  by_cases hbig' : mid < m
  · go_enter L.fsym, Try.ntmps53
    obtain ⟨s0, hs0⟩ : ∃ s0, s0 = mid + m - b := ⟨_, rfl⟩
    have zs0 : (mid : Int) + (m : Int) - (b : Int) = (s0 : Int) := by omega
    have g1 : a ≤ s0 := by omega
    have g2 : s0 + b ≤ mid + m := by omega
    have g2' : mid + m ≤ s0 + b := by omega
    have g3 : s0 ≤ mid := by omega
    have gm : (mid : Int) < (m : Int) := by omega
    clear hs0
    go_wp2
    go_loopg [20, 21] (mid - s0) (fun gk s20 s21 wr => ∃ s r : Nat, s20 = .int .i64 s ∧ s21 = .int .i64 r ∧ s0 ≤ s ∧ s ≤ r ∧ r ≤ mid ∧ r - s ≤ gk ∧ Aside (SWK enc k w0 blk off l.toArray wr) ∧
      Aside ((s = s0 ∨ ltOf cf l.toArray[mid + m - s]! l.toArray[s - 1]! = false) ∧ (r = mid ∨ ltOf cf l.toArray[mid + m - 1 - r]! l.toArray[r]! = true)))
    case atStart => exact ⟨s0, mid, rfl, rfl, Nat.le_refl _, by omega, Nat.le_refl _, Nat.le_refl _, S0, ⟨.inl rfl, .inl rfl⟩⟩
    case round =>
      clear S0
      obtain ⟨s, r, rfl, rfl, hss, hsr, hrr, hg, S1, I⟩ := hrel
      by_cases hlt : s < r
      · obtain ⟨c, hh⟩ : ∃ c, c = (s + r) / 2 := ⟨_, rfl⟩
        have hz1 : ((s : Int) + (r : Int)) / 2 = (c : Int) := by omega
        have hsc : s ≤ c := by omega
        have hcr : c < r := by omega
        clear hh
        obtain ⟨d, hd⟩ : ∃ d, d = mid + m - 1 - c := ⟨_, rfl⟩
        have hz2 : (mid : Int) + (m : Int) - 1 - (c : Int) = (d : Int) := by omega
        have hdb : d < b := by omega
        have hltz : (s : Int) < (r : Int) := by omega
        have hsz := HE.out.1
        have l1 := S1.out.ld R (by rw [hsz]; exact HE.out.2.symm) P d (by rw [hsz]; omega)
        have l2 := S1.out.ld R (by rw [hsz]; exact HE.out.2.symm) P c (by rw [hsz]; omega)
        obtain ⟨y, hy⟩ : ∃ y, y = l.toArray[d]! := ⟨_, rfl⟩
        obtain ⟨x1, hx1⟩ : ∃ y, y = l.toArray[c]! := ⟨_, rfl⟩
        rw [← hy] at l1
        rw [← hx1] at l2
        have hc := S1.out.cmp HC.out hsz y x1
        have HY : Hid (y = l.toArray[d]! ∧ x1 = l.toArray[c]! ∧ d = mid + m - 1 - c) := ⟨hy, hx1, hd⟩
        clear hsz hy hx1 hd
        have pa1 : (0 : Int) ≤ (d : Int) := by omega
        have ba1 : (d : Int) < (sz : Int) := by omega
        have pa2 : (0 : Int) ≤ (c : Int) := by omega
        have ba2 : (c : Int) < (sz : Int) := by omega
        have rd : IntKind.i64.wrap (d : Int) = (d : Int) := by rw [IntKind.wrap_i64]; omega
        by_cases hlv : cf y x1 < 0
        · have hdv : decide (cf y x1 < 0) = true := decide_eq_true hlv
          go_wp2_with fail
          go_quiet_grown (first | (go_at_fn g; refine Calls.grown_of (hc _ _)))
          have S2 : Aside (SWK enc k w0 blk off l.toArray (grow (wr.drewN nq) osq)) := S1.out.grown nq osq
          clear l1 l2 hc S1 rd
          generalize grow (wr.drewN nq) osq = wv at S2 ⊢
          clear nq osq
          go_wp2
          go_roundg (c - s)
          case measure => omega
          case rel =>
            have I2 : Aside ((s = s0 ∨ ltOf cf l.toArray[mid + m - s]! l.toArray[s - 1]! = false) ∧ (c = mid ∨ ltOf cf l.toArray[mid + m - 1 - c]! l.toArray[c]! = true)) := ⟨I.out.1, .inr (by rw [← HY.out.2.2, ← HY.out.1, ← HY.out.2.1]; exact hdv)⟩
            exact ⟨s, c, rfl, rfl, hss, hsc, by omega, Nat.le_refl _, S2, I2⟩
        -- not less
        · have hdv : decide (cf y x1 < 0) = false := decide_eq_false hlv
          go_wp2_with fail
          go_quiet_grown (first | (go_at_fn g; refine Calls.grown_of (hc _ _)))
          have S2 : Aside (SWK enc k w0 blk off l.toArray (grow (wr.drewN nq) osq)) := S1.out.grown nq osq
          clear l1 l2 hc S1 rd
          generalize grow (wr.drewN nq) osq = wv at S2 ⊢
          clear nq osq
          go_wp2
          go_roundg (r - (c + 1))
          case measure => omega
          case rel =>
            have I2 : Aside ((c + 1 = s0 ∨ ltOf cf l.toArray[mid + m - (c + 1)]! l.toArray[c + 1 - 1]! = false) ∧ (r = mid ∨ ltOf cf l.toArray[mid + m - 1 - r]! l.toArray[r]! = true)) := ⟨.inr (by rw [Nat.add_sub_cancel, show mid + m - (c + 1) = mid + m - 1 - c from by omega, ← HY.out.2.2, ← HY.out.1, ← HY.out.2.1]; exact hdv), I.out.2⟩
            exact ⟨c + 1, r, by go_num, rfl, by omega, by omega, hrr, Nat.le_refl _, S2, I2⟩
      · obtain rfl : r = s := by omega
        obtain ⟨e, he⟩ : ∃ e, e = mid + m - r := ⟨_, rfl⟩
        have ze : (mid : Int) + (m : Int) - (r : Int) = (e : Int) := by omega
        have k1 : a ≤ r := by omega
        have k2 : r ≤ m := by omega
        have k3 : m ≤ e := by omega
        have k4 : e ≤ b := by omega
        have k5 : r ≤ mid := by omega
        have k6 : r + e ≤ mid + m := by omega
        have k7 : mid + m ≤ r + e := by omega
        have hI : (r = a ∨ ltOf cf l.toArray[e]! l.toArray[r - 1]! = false ∨ e = b) ∧ (r = m ∨ ltOf cf l.toArray[e - 1]! l.toArray[r]! = true ∨ e = m) := by
          have h := I.out; rw [← he, show mid + m - 1 - r = e - 1 from by omega] at h
          exact ⟨h.1.elim (fun h => .inr (.inr (by omega))) (fun h => .inr (.inl h)), h.2.elim (fun h => .inr (.inr (by omega))) (fun h => .inr (.inl h))⟩
        clear he I hss hrr hg hlt zs0 g1 g2 g2' g3 gm
        have hnn : ¬ ((r : Int) < (r : Int)) := by omega
        obtain ⟨s, hs_⟩ : ∃ s, s = r := ⟨_, rfl⟩
        subst hs_
        obtain ⟨U1, U2, hU, hU1⟩ : ∃ U1 U2, U = U1 ++ U2 ∧ U1.length = s - a := ⟨U.take (s - a), U.drop (s - a), (List.take_append_drop _ _).symm, by have q := HM.out; simp; omega⟩
        obtain ⟨V1, V2, hV, hV1⟩ : ∃ V1 V2, V = V1 ++ V2 ∧ V1.length = e - m := ⟨V.take (e - m), V.drop (e - m), (List.take_append_drop _ _).symm, by have q := HM.out; simp; omega⟩
        have HQ : Hid (U = U1 ++ U2 ∧ V = V1 ++ V2 ∧ X.length = a ∧ a + U1.length = s ∧ s + U2.length = m ∧ m + V1.length = e ∧ e + V2.length = b ∧ b + Y.length = sz ∧ mid + m = s + e) := by
          have q := HM.out
          have p1 := congrArg List.length hU; have p2 := congrArg List.length hV
          simp at p1 p2
          exact ⟨hU, hV, by omega, by omega, by omega, by omega, by omega, by omega, by omega⟩
        have HU1 : Aside (SortedL (ltOf cf) U1) := by have q := HSU.out; rw [hU] at q; exact SortedL.left (lt := ltOf cf) q
        have HU2 : Aside (SortedL (ltOf cf) U2) := by have q := HSU.out; rw [hU] at q; exact SortedL.right (lt := ltOf cf) q
        have HV1 : Aside (SortedL (ltOf cf) V1) := by have q := HSV.out; rw [hV] at q; exact SortedL.left (lt := ltOf cf) q
        have HV2 : Aside (SortedL (ltOf cf) V2) := by have q := HSV.out; rw [hV] at q; exact SortedL.right (lt := ltOf cf) q
        have HB1 : Aside (∀ u, U2.head? = some u → ∀ v, V1.getLast? = some v → ltOf cf v u = true) := by
          intro u hu v hv
          obtain ⟨V1', rfl⟩ := List.getLast?_eq_some_iff.1 hv
          cases U2 with
          | nil => cases hu
          | cons u' U3 =>
            have hu' : u' = u := by simpa using hu
            subst hu'
            have q := HQ.out
            have h := hI.2
            have h := (h.resolve_left (by simp at q; omega)).resolve_right (by simp at q; omega)
            have e1 : l = (X ++ U1) ++ u' :: (U3 ++ ((V1' ++ [v]) ++ V2) ++ Y) := by rw [HL.out, q.1, q.2.1]; simp
            have e2 : l = (X ++ (U1 ++ u' :: U3) ++ V1') ++ v :: (V2 ++ Y) := by rw [HL.out, q.1, q.2.1]; simp
            have f1 := get_mid (X ++ U1) u' (U3 ++ ((V1' ++ [v]) ++ V2) ++ Y)
            have f2 := get_mid (X ++ (U1 ++ u' :: U3) ++ V1') v (V2 ++ Y)
            rw [← e1, show (X ++ U1).length = s from by simp; omega] at f1
            rw [← e2, show (X ++ (U1 ++ u' :: U3) ++ V1').length = e - 1 from by simp at q ⊢; omega] at f2
            rw [f1, f2] at h
            exact h
        have HB2 : Aside (∀ u, U1.getLast? = some u → ∀ v, V2.head? = some v → ltOf cf v u = false) := by
          intro u hu v hv
          obtain ⟨U1', rfl⟩ := List.getLast?_eq_some_iff.1 hu
          cases V2 with
          | nil => cases hv
          | cons v' V3 =>
            have hv' : v' = v := by simpa using hv
            subst hv'
            have q := HQ.out
            have h := hI.1
            have h := (h.resolve_left (by simp at q; omega)).resolve_right (by simp at q; omega)
            have e1 : l = (X ++ U1') ++ u :: (U2 ++ (V1 ++ v' :: V3) ++ Y) := by rw [HL.out, q.1, q.2.1]; simp
            have e2 : l = (X ++ ((U1' ++ [u]) ++ U2) ++ V1) ++ v' :: (V3 ++ Y) := by rw [HL.out, q.1, q.2.1]; simp
            have f1 := get_mid (X ++ U1') u (U2 ++ (V1 ++ v' :: V3) ++ Y)
            have f2 := get_mid (X ++ ((U1' ++ [u]) ++ U2) ++ V1) v' (V3 ++ Y)
            rw [← e1, show (X ++ U1').length = s - 1 from by simp at q ⊢; omega] at f1
            rw [← e2, show (X ++ ((U1' ++ [u]) ++ U2) ++ V1).length = e from by simp at q ⊢; omega] at f2
            rw [f1, f2] at h
            exact h
        clear hI hU hU1 hV hV1
        by_cases q1 : s < m
        · have _tk : True := trivial
          by_cases q3 : a < s
          · have _tk : True := trivial
            by_cases q6 : e < b
            · have _tk : True := trivial
              by_cases q2 : m < e
              · have _tk : True := trivial
                have c1 : (s : Int) < (m : Int) := by omega
                have c2 : (m : Int) < (e : Int) := by omega
                have c3 : (a : Int) < (s : Int) := by omega
                have c4 : (s : Int) < (mid : Int) := by omega
                have c5 : (mid : Int) < (e : Int) := by omega
                have c6 : (e : Int) < (b : Int) := by omega
                have hr := StCh.rotate L enc g cb blk off cap s m e sz (X ++ U1) U2 V1 (V2 ++ Y) d0 w0 wr R (by have q := HQ.out; simp; omega) (by have q := HQ.out; simp; omega) (by have q := HQ.out; simp; omega) (by have q := HQ.out; omega) (by have q := HQ.out; omega) (by have q := HQ.out; simp; omega) HE.out.2 hbig (by have := S1.out; rw [HL.out, HQ.out.1, HQ.out.2.1] at this; exact StCh.cong this (by simp [List.append_assoc]))
                have HR : Hid (type_of% hr) := hr
                clear hr
                go_wp2_with fail
                refine HR.out.mono ?_
                rintro e1 w1 ⟨rfl, S2⟩
                have SA : Aside (SWK enc k w0 blk off (X ++ (U1 ++ V1) ++ (U2 ++ V2) ++ Y).toArray w1) := StCh.cong S2 (by simp [List.append_assoc])
                clear S2 HR
                have hb := IH2.out (mid - a) (by omega) a s mid X U1 V1 ((U2 ++ V2) ++ Y) w1 (by omega) (by have q := HQ.out; omega) (by have q := HQ.out; omega) (by have q := HQ.out; omega) (by have q := HQ.out; omega) (by have q := HQ.out; omega) (by have q := HQ.out; simp; omega) HU1.out HV1.out (by have := SA.out; exact StCh.cong this (by simp [List.append_assoc]))
                have HB : Hid (type_of% hb) := hb
                clear hb
                go_wp2_with fail
                refine HB.out.mono ?_
                rintro e2 w2 ⟨rfl, LL, S3, q1, q2⟩
                have hLl := (q2.length HO.out).symm
                have SB : Aside (SWK enc k w0 blk off (X ++ LL ++ (U2 ++ V2) ++ Y).toArray w2 ∧ SortedL (ltOf cf) LL ∧ Stab (ltOf cf) (U1 ++ V1) LL ∧ LL.length = U1.length + V1.length) := ⟨StCh.cong S3 (by simp [List.append_assoc]), q1, q2, by rw [hLl]; simp⟩
                clear S3 q1 q2 hLl HB SA
                have hd := IH2.out (b - mid) (by omega) mid e b (X ++ LL) U2 V2 Y w2 (by omega) (by have q := HQ.out; have q2 := SB.out.2.2.2; simp; omega) (by have q := HQ.out; have q2 := SB.out.2.2.2; simp; omega) (by have q := HQ.out; have q2 := SB.out.2.2.2; simp; omega) (by have q := HQ.out; omega) (by have q := HQ.out; omega) (by have q := HQ.out; have q2 := SB.out.2.2.2; simp; omega) HU2.out HV2.out (by have := SB.out.1; exact StCh.cong this (by simp [List.append_assoc]))
                have HD : Hid (type_of% hd) := hd
                clear hd
                go_wp2_with fail
                refine HD.out.mono ?_
                rintro e3 w3 ⟨rfl, RR, S4, q1, q2⟩
                have SC : Aside (SWK enc k w0 blk off (X ++ LL ++ RR ++ Y).toArray w3 ∧ SortedL (ltOf cf) RR ∧ Stab (ltOf cf) (U2 ++ V2) RR) := ⟨StCh.cong S4 (by simp [List.append_assoc]), q1, q2⟩
                clear S4 q1 q2 HD
                go_wp2
                all_goals
                  go_end0
                  have mf := merge_step HO.out U1 U2 V1 V2 LL RR (by rw [← HQ.out.1]; exact HSU.out) (by rw [← HQ.out.2.1]; exact HSV.out) HB1.out HB2.out SB.out.2.1 SC.out.2.1 SB.out.2.2.1 SC.out.2.2
                  exact ⟨rfl, LL ++ RR, by have := SC.out.1; exact StCh.cong this (by simp [List.append_assoc]), mf.1, by rw [HQ.out.1, HQ.out.2.1]; exact mf.2⟩
              · have _tk : True := trivial
                have c1 : (s : Int) < (m : Int) := by omega
                have c2 : ¬ ((m : Int) < (e : Int)) := by omega
                have c3 : (a : Int) < (s : Int) := by omega
                have c4 : ¬ ((s : Int) < (mid : Int)) := by omega
                have c5 : (mid : Int) < (e : Int) := by omega
                have c6 : (e : Int) < (b : Int) := by omega
                have SA : Aside (SWK enc k w0 blk off (X ++ (U1 ++ V1) ++ (U2 ++ V2) ++ Y).toArray wr) := by
                  have hz : V1 = [] := List.eq_nil_of_length_eq_zero (by have q := HQ.out; omega)
                  have := S1.out; rw [HL.out, HQ.out.1, HQ.out.2.1, hz] at this; rw [hz]; exact StCh.cong this (by simp [List.append_assoc])
                obtain ⟨LL, hLL⟩ : ∃ LL, LL = U1 ++ V1 := ⟨_, rfl⟩
                have SB : Aside (SWK enc k w0 blk off (X ++ LL ++ (U2 ++ V2) ++ Y).toArray wr ∧ SortedL (ltOf cf) LL ∧ Stab (ltOf cf) (U1 ++ V1) LL ∧ LL.length = U1.length + V1.length) := by
                  rw [hLL]
                  have hz : V1 = [] := List.eq_nil_of_length_eq_zero (by have q := HQ.out; omega)
                  refine ⟨SA.out, ?_, Stab.refl _, by simp⟩
                  rw [hz]; simpa using HU1.out
                clear hLL
                have hd := IH2.out (b - mid) (by omega) mid e b (X ++ LL) U2 V2 Y wr (by omega) (by have q := HQ.out; have q2 := SB.out.2.2.2; simp; omega) (by have q := HQ.out; have q2 := SB.out.2.2.2; simp; omega) (by have q := HQ.out; have q2 := SB.out.2.2.2; simp; omega) (by have q := HQ.out; omega) (by have q := HQ.out; omega) (by have q := HQ.out; have q2 := SB.out.2.2.2; simp; omega) HU2.out HV2.out (by have := SB.out.1; exact StCh.cong this (by simp [List.append_assoc]))
                have HD : Hid (type_of% hd) := hd
                clear hd
                go_wp2_with fail
                refine HD.out.mono ?_
                rintro e3 w3 ⟨rfl, RR, S4, q1, q2⟩
                have SC : Aside (SWK enc k w0 blk off (X ++ LL ++ RR ++ Y).toArray w3 ∧ SortedL (ltOf cf) RR ∧ Stab (ltOf cf) (U2 ++ V2) RR) := ⟨StCh.cong S4 (by simp [List.append_assoc]), q1, q2⟩
                clear S4 q1 q2 HD
                go_wp2
                all_goals
                  go_end0
                  have mf := merge_step HO.out U1 U2 V1 V2 LL RR (by rw [← HQ.out.1]; exact HSU.out) (by rw [← HQ.out.2.1]; exact HSV.out) HB1.out HB2.out SB.out.2.1 SC.out.2.1 SB.out.2.2.1 SC.out.2.2
                  exact ⟨rfl, LL ++ RR, by have := SC.out.1; exact StCh.cong this (by simp [List.append_assoc]), mf.1, by rw [HQ.out.1, HQ.out.2.1]; exact mf.2⟩
            · have _tk : True := trivial
              by_cases q2 : m < e
              · have _tk : True := trivial
                have c1 : (s : Int) < (m : Int) := by omega
                have c2 : (m : Int) < (e : Int) := by omega
                have c3 : (a : Int) < (s : Int) := by omega
                have c4 : (s : Int) < (mid : Int) := by omega
                have c5 : (mid : Int) < (e : Int) := by omega
                have c6 : ¬ ((e : Int) < (b : Int)) := by omega
                have hr := StCh.rotate L enc g cb blk off cap s m e sz (X ++ U1) U2 V1 (V2 ++ Y) d0 w0 wr R (by have q := HQ.out; simp; omega) (by have q := HQ.out; simp; omega) (by have q := HQ.out; simp; omega) (by have q := HQ.out; omega) (by have q := HQ.out; omega) (by have q := HQ.out; simp; omega) HE.out.2 hbig (by have := S1.out; rw [HL.out, HQ.out.1, HQ.out.2.1] at this; exact StCh.cong this (by simp [List.append_assoc]))
                have HR : Hid (type_of% hr) := hr
                clear hr
                go_wp2_with fail
                refine HR.out.mono ?_
                rintro e1 w1 ⟨rfl, S2⟩
                have SA : Aside (SWK enc k w0 blk off (X ++ (U1 ++ V1) ++ (U2 ++ V2) ++ Y).toArray w1) := StCh.cong S2 (by simp [List.append_assoc])
                clear S2 HR
                have hb := IH2.out (mid - a) (by omega) a s mid X U1 V1 ((U2 ++ V2) ++ Y) w1 (by omega) (by have q := HQ.out; omega) (by have q := HQ.out; omega) (by have q := HQ.out; omega) (by have q := HQ.out; omega) (by have q := HQ.out; omega) (by have q := HQ.out; simp; omega) HU1.out HV1.out (by have := SA.out; exact StCh.cong this (by simp [List.append_assoc]))
                have HB : Hid (type_of% hb) := hb
                clear hb
                go_wp2_with fail
                refine HB.out.mono ?_
                rintro e2 w2 ⟨rfl, LL, S3, q1, q2⟩
                have hLl := (q2.length HO.out).symm
                have SB : Aside (SWK enc k w0 blk off (X ++ LL ++ (U2 ++ V2) ++ Y).toArray w2 ∧ SortedL (ltOf cf) LL ∧ Stab (ltOf cf) (U1 ++ V1) LL ∧ LL.length = U1.length + V1.length) := ⟨StCh.cong S3 (by simp [List.append_assoc]), q1, q2, by rw [hLl]; simp⟩
                clear S3 q1 q2 hLl HB SA
                obtain ⟨RR, hRR⟩ : ∃ RR, RR = U2 ++ V2 := ⟨_, rfl⟩
                have SC : Aside (SWK enc k w0 blk off (X ++ LL ++ RR ++ Y).toArray w2 ∧ SortedL (ltOf cf) RR ∧ Stab (ltOf cf) (U2 ++ V2) RR) := by
                  rw [hRR]
                  have hz : V2 = [] := List.eq_nil_of_length_eq_zero (by have q := HQ.out; omega)
                  refine ⟨SB.out.1, ?_, Stab.refl _⟩
                  rw [hz]; simpa using HU2.out
                clear hRR
                go_wp2
                all_goals
                  go_end0
                  have mf := merge_step HO.out U1 U2 V1 V2 LL RR (by rw [← HQ.out.1]; exact HSU.out) (by rw [← HQ.out.2.1]; exact HSV.out) HB1.out HB2.out SB.out.2.1 SC.out.2.1 SB.out.2.2.1 SC.out.2.2
                  exact ⟨rfl, LL ++ RR, by have := SC.out.1; exact StCh.cong this (by simp [List.append_assoc]), mf.1, by rw [HQ.out.1, HQ.out.2.1]; exact mf.2⟩
              · have _tk : True := trivial
                have c1 : (s : Int) < (m : Int) := by omega
                have c2 : ¬ ((m : Int) < (e : Int)) := by omega
                have c3 : (a : Int) < (s : Int) := by omega
                have c4 : ¬ ((s : Int) < (mid : Int)) := by omega
                have c5 : (mid : Int) < (e : Int) := by omega
                have c6 : ¬ ((e : Int) < (b : Int)) := by omega
                have SA : Aside (SWK enc k w0 blk off (X ++ (U1 ++ V1) ++ (U2 ++ V2) ++ Y).toArray wr) := by
                  have hz : V1 = [] := List.eq_nil_of_length_eq_zero (by have q := HQ.out; omega)
                  have := S1.out; rw [HL.out, HQ.out.1, HQ.out.2.1, hz] at this; rw [hz]; exact StCh.cong this (by simp [List.append_assoc])
                obtain ⟨LL, hLL⟩ : ∃ LL, LL = U1 ++ V1 := ⟨_, rfl⟩
                have SB : Aside (SWK enc k w0 blk off (X ++ LL ++ (U2 ++ V2) ++ Y).toArray wr ∧ SortedL (ltOf cf) LL ∧ Stab (ltOf cf) (U1 ++ V1) LL ∧ LL.length = U1.length + V1.length) := by
                  rw [hLL]
                  have hz : V1 = [] := List.eq_nil_of_length_eq_zero (by have q := HQ.out; omega)
                  refine ⟨SA.out, ?_, Stab.refl _, by simp⟩
                  rw [hz]; simpa using HU1.out
                clear hLL
                obtain ⟨RR, hRR⟩ : ∃ RR, RR = U2 ++ V2 := ⟨_, rfl⟩
                have SC : Aside (SWK enc k w0 blk off (X ++ LL ++ RR ++ Y).toArray wr ∧ SortedL (ltOf cf) RR ∧ Stab (ltOf cf) (U2 ++ V2) RR) := by
                  rw [hRR]
                  have hz : V2 = [] := List.eq_nil_of_length_eq_zero (by have q := HQ.out; omega)
                  refine ⟨SB.out.1, ?_, Stab.refl _⟩
                  rw [hz]; simpa using HU2.out
                clear hRR
                go_wp2
                all_goals
                  go_end0
                  have mf := merge_step HO.out U1 U2 V1 V2 LL RR (by rw [← HQ.out.1]; exact HSU.out) (by rw [← HQ.out.2.1]; exact HSV.out) HB1.out HB2.out SB.out.2.1 SC.out.2.1 SB.out.2.2.1 SC.out.2.2
                  exact ⟨rfl, LL ++ RR, by have := SC.out.1; exact StCh.cong this (by simp [List.append_assoc]), mf.1, by rw [HQ.out.1, HQ.out.2.1]; exact mf.2⟩
          · have _tk : True := trivial
            by_cases q6 : e < b
            · have _tk : True := trivial
              by_cases q2 : m < e
              · have _tk : True := trivial
                have c1 : (s : Int) < (m : Int) := by omega
                have c2 : (m : Int) < (e : Int) := by omega
                have c3 : ¬ ((a : Int) < (s : Int)) := by omega
                have c4 : (s : Int) < (mid : Int) := by omega
                have c5 : (mid : Int) < (e : Int) := by omega
                have c6 : (e : Int) < (b : Int) := by omega
                have hr := StCh.rotate L enc g cb blk off cap s m e sz (X ++ U1) U2 V1 (V2 ++ Y) d0 w0 wr R (by have q := HQ.out; simp; omega) (by have q := HQ.out; simp; omega) (by have q := HQ.out; simp; omega) (by have q := HQ.out; omega) (by have q := HQ.out; omega) (by have q := HQ.out; simp; omega) HE.out.2 hbig (by have := S1.out; rw [HL.out, HQ.out.1, HQ.out.2.1] at this; exact StCh.cong this (by simp [List.append_assoc]))
                have HR : Hid (type_of% hr) := hr
                clear hr
                go_wp2_with fail
                refine HR.out.mono ?_
                rintro e1 w1 ⟨rfl, S2⟩
                have SA : Aside (SWK enc k w0 blk off (X ++ (U1 ++ V1) ++ (U2 ++ V2) ++ Y).toArray w1) := StCh.cong S2 (by simp [List.append_assoc])
                clear S2 HR
                obtain ⟨LL, hLL⟩ : ∃ LL, LL = U1 ++ V1 := ⟨_, rfl⟩
                have SB : Aside (SWK enc k w0 blk off (X ++ LL ++ (U2 ++ V2) ++ Y).toArray w1 ∧ SortedL (ltOf cf) LL ∧ Stab (ltOf cf) (U1 ++ V1) LL ∧ LL.length = U1.length + V1.length) := by
                  rw [hLL]
                  have hz : U1 = [] := List.eq_nil_of_length_eq_zero (by have q := HQ.out; omega)
                  refine ⟨SA.out, ?_, Stab.refl _, by simp⟩
                  rw [hz]; simpa using HV1.out
                clear hLL
                have hd := IH2.out (b - mid) (by omega) mid e b (X ++ LL) U2 V2 Y w1 (by omega) (by have q := HQ.out; have q2 := SB.out.2.2.2; simp; omega) (by have q := HQ.out; have q2 := SB.out.2.2.2; simp; omega) (by have q := HQ.out; have q2 := SB.out.2.2.2; simp; omega) (by have q := HQ.out; omega) (by have q := HQ.out; omega) (by have q := HQ.out; have q2 := SB.out.2.2.2; simp; omega) HU2.out HV2.out (by have := SB.out.1; exact StCh.cong this (by simp [List.append_assoc]))
                have HD : Hid (type_of% hd) := hd
                clear hd
                go_wp2_with fail
                refine HD.out.mono ?_
                rintro e3 w3 ⟨rfl, RR, S4, q1, q2⟩
                have SC : Aside (SWK enc k w0 blk off (X ++ LL ++ RR ++ Y).toArray w3 ∧ SortedL (ltOf cf) RR ∧ Stab (ltOf cf) (U2 ++ V2) RR) := ⟨StCh.cong S4 (by simp [List.append_assoc]), q1, q2⟩
                clear S4 q1 q2 HD
                go_wp2
                all_goals
                  go_end0
                  have mf := merge_step HO.out U1 U2 V1 V2 LL RR (by rw [← HQ.out.1]; exact HSU.out) (by rw [← HQ.out.2.1]; exact HSV.out) HB1.out HB2.out SB.out.2.1 SC.out.2.1 SB.out.2.2.1 SC.out.2.2
                  exact ⟨rfl, LL ++ RR, by have := SC.out.1; exact StCh.cong this (by simp [List.append_assoc]), mf.1, by rw [HQ.out.1, HQ.out.2.1]; exact mf.2⟩
              · have _tk : True := trivial
                have c1 : (s : Int) < (m : Int) := by omega
                have c2 : ¬ ((m : Int) < (e : Int)) := by omega
                have c3 : ¬ ((a : Int) < (s : Int)) := by omega
                have c4 : ¬ ((s : Int) < (mid : Int)) := by omega
                have c5 : (mid : Int) < (e : Int) := by omega
                have c6 : (e : Int) < (b : Int) := by omega
                have SA : Aside (SWK enc k w0 blk off (X ++ (U1 ++ V1) ++ (U2 ++ V2) ++ Y).toArray wr) := by
                  have hz : V1 = [] := List.eq_nil_of_length_eq_zero (by have q := HQ.out; omega)
                  have := S1.out; rw [HL.out, HQ.out.1, HQ.out.2.1, hz] at this; rw [hz]; exact StCh.cong this (by simp [List.append_assoc])
                obtain ⟨LL, hLL⟩ : ∃ LL, LL = U1 ++ V1 := ⟨_, rfl⟩
                have SB : Aside (SWK enc k w0 blk off (X ++ LL ++ (U2 ++ V2) ++ Y).toArray wr ∧ SortedL (ltOf cf) LL ∧ Stab (ltOf cf) (U1 ++ V1) LL ∧ LL.length = U1.length + V1.length) := by
                  rw [hLL]
                  have hz : U1 = [] := List.eq_nil_of_length_eq_zero (by have q := HQ.out; omega)
                  refine ⟨SA.out, ?_, Stab.refl _, by simp⟩
                  rw [hz]; simpa using HV1.out
                clear hLL
                have hd := IH2.out (b - mid) (by omega) mid e b (X ++ LL) U2 V2 Y wr (by omega) (by have q := HQ.out; have q2 := SB.out.2.2.2; simp; omega) (by have q := HQ.out; have q2 := SB.out.2.2.2; simp; omega) (by have q := HQ.out; have q2 := SB.out.2.2.2; simp; omega) (by have q := HQ.out; omega) (by have q := HQ.out; omega) (by have q := HQ.out; have q2 := SB.out.2.2.2; simp; omega) HU2.out HV2.out (by have := SB.out.1; exact StCh.cong this (by simp [List.append_assoc]))
                have HD : Hid (type_of% hd) := hd
                clear hd
                go_wp2_with fail
                refine HD.out.mono ?_
                rintro e3 w3 ⟨rfl, RR, S4, q1, q2⟩
                have SC : Aside (SWK enc k w0 blk off (X ++ LL ++ RR ++ Y).toArray w3 ∧ SortedL (ltOf cf) RR ∧ Stab (ltOf cf) (U2 ++ V2) RR) := ⟨StCh.cong S4 (by simp [List.append_assoc]), q1, q2⟩
                clear S4 q1 q2 HD
                go_wp2
                all_goals
                  go_end0
                  have mf := merge_step HO.out U1 U2 V1 V2 LL RR (by rw [← HQ.out.1]; exact HSU.out) (by rw [← HQ.out.2.1]; exact HSV.out) HB1.out HB2.out SB.out.2.1 SC.out.2.1 SB.out.2.2.1 SC.out.2.2
                  exact ⟨rfl, LL ++ RR, by have := SC.out.1; exact StCh.cong this (by simp [List.append_assoc]), mf.1, by rw [HQ.out.1, HQ.out.2.1]; exact mf.2⟩
            · have _tk : True := trivial
              by_cases q2 : m < e
              · have _tk : True := trivial
                have c1 : (s : Int) < (m : Int) := by omega
                have c2 : (m : Int) < (e : Int) := by omega
                have c3 : ¬ ((a : Int) < (s : Int)) := by omega
                have c4 : (s : Int) < (mid : Int) := by omega
                have c5 : (mid : Int) < (e : Int) := by omega
                have c6 : ¬ ((e : Int) < (b : Int)) := by omega
                have hr := StCh.rotate L enc g cb blk off cap s m e sz (X ++ U1) U2 V1 (V2 ++ Y) d0 w0 wr R (by have q := HQ.out; simp; omega) (by have q := HQ.out; simp; omega) (by have q := HQ.out; simp; omega) (by have q := HQ.out; omega) (by have q := HQ.out; omega) (by have q := HQ.out; simp; omega) HE.out.2 hbig (by have := S1.out; rw [HL.out, HQ.out.1, HQ.out.2.1] at this; exact StCh.cong this (by simp [List.append_assoc]))
                have HR : Hid (type_of% hr) := hr
                clear hr
                go_wp2_with fail
                refine HR.out.mono ?_
                rintro e1 w1 ⟨rfl, S2⟩
                have SA : Aside (SWK enc k w0 blk off (X ++ (U1 ++ V1) ++ (U2 ++ V2) ++ Y).toArray w1) := StCh.cong S2 (by simp [List.append_assoc])
                clear S2 HR
                obtain ⟨LL, hLL⟩ : ∃ LL, LL = U1 ++ V1 := ⟨_, rfl⟩
                have SB : Aside (SWK enc k w0 blk off (X ++ LL ++ (U2 ++ V2) ++ Y).toArray w1 ∧ SortedL (ltOf cf) LL ∧ Stab (ltOf cf) (U1 ++ V1) LL ∧ LL.length = U1.length + V1.length) := by
                  rw [hLL]
                  have hz : U1 = [] := List.eq_nil_of_length_eq_zero (by have q := HQ.out; omega)
                  refine ⟨SA.out, ?_, Stab.refl _, by simp⟩
                  rw [hz]; simpa using HV1.out
                clear hLL
                obtain ⟨RR, hRR⟩ : ∃ RR, RR = U2 ++ V2 := ⟨_, rfl⟩
                have SC : Aside (SWK enc k w0 blk off (X ++ LL ++ RR ++ Y).toArray w1 ∧ SortedL (ltOf cf) RR ∧ Stab (ltOf cf) (U2 ++ V2) RR) := by
                  rw [hRR]
                  have hz : V2 = [] := List.eq_nil_of_length_eq_zero (by have q := HQ.out; omega)
                  refine ⟨SB.out.1, ?_, Stab.refl _⟩
                  rw [hz]; simpa using HU2.out
                clear hRR
                go_wp2
                all_goals
                  go_end0
                  have mf := merge_step HO.out U1 U2 V1 V2 LL RR (by rw [← HQ.out.1]; exact HSU.out) (by rw [← HQ.out.2.1]; exact HSV.out) HB1.out HB2.out SB.out.2.1 SC.out.2.1 SB.out.2.2.1 SC.out.2.2
                  exact ⟨rfl, LL ++ RR, by have := SC.out.1; exact StCh.cong this (by simp [List.append_assoc]), mf.1, by rw [HQ.out.1, HQ.out.2.1]; exact mf.2⟩
              · have _tk : True := trivial
                have c1 : (s : Int) < (m : Int) := by omega
                have c2 : ¬ ((m : Int) < (e : Int)) := by omega
                have c3 : ¬ ((a : Int) < (s : Int)) := by omega
                have c4 : ¬ ((s : Int) < (mid : Int)) := by omega
                have c5 : (mid : Int) < (e : Int) := by omega
                have c6 : ¬ ((e : Int) < (b : Int)) := by omega
                have SA : Aside (SWK enc k w0 blk off (X ++ (U1 ++ V1) ++ (U2 ++ V2) ++ Y).toArray wr) := by
                  have hz : V1 = [] := List.eq_nil_of_length_eq_zero (by have q := HQ.out; omega)
                  have := S1.out; rw [HL.out, HQ.out.1, HQ.out.2.1, hz] at this; rw [hz]; exact StCh.cong this (by simp [List.append_assoc])
                obtain ⟨LL, hLL⟩ : ∃ LL, LL = U1 ++ V1 := ⟨_, rfl⟩
                have SB : Aside (SWK enc k w0 blk off (X ++ LL ++ (U2 ++ V2) ++ Y).toArray wr ∧ SortedL (ltOf cf) LL ∧ Stab (ltOf cf) (U1 ++ V1) LL ∧ LL.length = U1.length + V1.length) := by
                  rw [hLL]
                  have hz : U1 = [] := List.eq_nil_of_length_eq_zero (by have q := HQ.out; omega)
                  refine ⟨SA.out, ?_, Stab.refl _, by simp⟩
                  rw [hz]; simpa using HV1.out
                clear hLL
                obtain ⟨RR, hRR⟩ : ∃ RR, RR = U2 ++ V2 := ⟨_, rfl⟩
                have SC : Aside (SWK enc k w0 blk off (X ++ LL ++ RR ++ Y).toArray wr ∧ SortedL (ltOf cf) RR ∧ Stab (ltOf cf) (U2 ++ V2) RR) := by
                  rw [hRR]
                  have hz : V2 = [] := List.eq_nil_of_length_eq_zero (by have q := HQ.out; omega)
                  refine ⟨SB.out.1, ?_, Stab.refl _⟩
                  rw [hz]; simpa using HU2.out
                clear hRR
                go_wp2
                all_goals
                  go_end0
                  have mf := merge_step HO.out U1 U2 V1 V2 LL RR (by rw [← HQ.out.1]; exact HSU.out) (by rw [← HQ.out.2.1]; exact HSV.out) HB1.out HB2.out SB.out.2.1 SC.out.2.1 SB.out.2.2.1 SC.out.2.2
                  exact ⟨rfl, LL ++ RR, by have := SC.out.1; exact StCh.cong this (by simp [List.append_assoc]), mf.1, by rw [HQ.out.1, HQ.out.2.1]; exact mf.2⟩
        · have _tk : True := trivial
          by_cases q3 : a < s
          · have _tk : True := trivial
            by_cases q6 : e < b
            · have _tk : True := trivial
              by_cases q2 : m < e
              · have _tk : True := trivial
                have c1 : ¬ ((s : Int) < (m : Int)) := by omega
                have c2 : (m : Int) < (e : Int) := by omega
                have c3 : (a : Int) < (s : Int) := by omega
                have c4 : (s : Int) < (mid : Int) := by omega
                have c5 : ¬ ((mid : Int) < (e : Int)) := by omega
                have c6 : (e : Int) < (b : Int) := by omega
                have SA : Aside (SWK enc k w0 blk off (X ++ (U1 ++ V1) ++ (U2 ++ V2) ++ Y).toArray wr) := by
                  have hz : U2 = [] := List.eq_nil_of_length_eq_zero (by have q := HQ.out; omega)
                  have := S1.out; rw [HL.out, HQ.out.1, HQ.out.2.1, hz] at this; rw [hz]; exact StCh.cong this (by simp [List.append_assoc])
                have hb := IH2.out (mid - a) (by omega) a s mid X U1 V1 ((U2 ++ V2) ++ Y) wr (by omega) (by have q := HQ.out; omega) (by have q := HQ.out; omega) (by have q := HQ.out; omega) (by have q := HQ.out; omega) (by have q := HQ.out; omega) (by have q := HQ.out; simp; omega) HU1.out HV1.out (by have := SA.out; exact StCh.cong this (by simp [List.append_assoc]))
                have HB : Hid (type_of% hb) := hb
                clear hb
                go_wp2_with fail
                refine HB.out.mono ?_
                rintro e2 w2 ⟨rfl, LL, S3, q1, q2⟩
                have hLl := (q2.length HO.out).symm
                have SB : Aside (SWK enc k w0 blk off (X ++ LL ++ (U2 ++ V2) ++ Y).toArray w2 ∧ SortedL (ltOf cf) LL ∧ Stab (ltOf cf) (U1 ++ V1) LL ∧ LL.length = U1.length + V1.length) := ⟨StCh.cong S3 (by simp [List.append_assoc]), q1, q2, by rw [hLl]; simp⟩
                clear S3 q1 q2 hLl HB SA
                obtain ⟨RR, hRR⟩ : ∃ RR, RR = U2 ++ V2 := ⟨_, rfl⟩
                have SC : Aside (SWK enc k w0 blk off (X ++ LL ++ RR ++ Y).toArray w2 ∧ SortedL (ltOf cf) RR ∧ Stab (ltOf cf) (U2 ++ V2) RR) := by
                  rw [hRR]
                  have hz : U2 = [] := List.eq_nil_of_length_eq_zero (by have q := HQ.out; omega)
                  refine ⟨SB.out.1, ?_, Stab.refl _⟩
                  rw [hz]; simpa using HV2.out
                clear hRR
                go_wp2
                all_goals
                  go_end0
                  have mf := merge_step HO.out U1 U2 V1 V2 LL RR (by rw [← HQ.out.1]; exact HSU.out) (by rw [← HQ.out.2.1]; exact HSV.out) HB1.out HB2.out SB.out.2.1 SC.out.2.1 SB.out.2.2.1 SC.out.2.2
                  exact ⟨rfl, LL ++ RR, by have := SC.out.1; exact StCh.cong this (by simp [List.append_assoc]), mf.1, by rw [HQ.out.1, HQ.out.2.1]; exact mf.2⟩
              · have _tk : True := trivial
                have c1 : ¬ ((s : Int) < (m : Int)) := by omega
                have c2 : ¬ ((m : Int) < (e : Int)) := by omega
                have c3 : (a : Int) < (s : Int) := by omega
                have c4 : ¬ ((s : Int) < (mid : Int)) := by omega
                have c5 : ¬ ((mid : Int) < (e : Int)) := by omega
                have c6 : (e : Int) < (b : Int) := by omega
                have SA : Aside (SWK enc k w0 blk off (X ++ (U1 ++ V1) ++ (U2 ++ V2) ++ Y).toArray wr) := by
                  have hz : U2 = [] := List.eq_nil_of_length_eq_zero (by have q := HQ.out; omega)
                  have := S1.out; rw [HL.out, HQ.out.1, HQ.out.2.1, hz] at this; rw [hz]; exact StCh.cong this (by simp [List.append_assoc])
                obtain ⟨LL, hLL⟩ : ∃ LL, LL = U1 ++ V1 := ⟨_, rfl⟩
                have SB : Aside (SWK enc k w0 blk off (X ++ LL ++ (U2 ++ V2) ++ Y).toArray wr ∧ SortedL (ltOf cf) LL ∧ Stab (ltOf cf) (U1 ++ V1) LL ∧ LL.length = U1.length + V1.length) := by
                  rw [hLL]
                  have hz : V1 = [] := List.eq_nil_of_length_eq_zero (by have q := HQ.out; omega)
                  refine ⟨SA.out, ?_, Stab.refl _, by simp⟩
                  rw [hz]; simpa using HU1.out
                clear hLL
                obtain ⟨RR, hRR⟩ : ∃ RR, RR = U2 ++ V2 := ⟨_, rfl⟩
                have SC : Aside (SWK enc k w0 blk off (X ++ LL ++ RR ++ Y).toArray wr ∧ SortedL (ltOf cf) RR ∧ Stab (ltOf cf) (U2 ++ V2) RR) := by
                  rw [hRR]
                  have hz : U2 = [] := List.eq_nil_of_length_eq_zero (by have q := HQ.out; omega)
                  refine ⟨SB.out.1, ?_, Stab.refl _⟩
                  rw [hz]; simpa using HV2.out
                clear hRR
                go_wp2
                all_goals
                  go_end0
                  have mf := merge_step HO.out U1 U2 V1 V2 LL RR (by rw [← HQ.out.1]; exact HSU.out) (by rw [← HQ.out.2.1]; exact HSV.out) HB1.out HB2.out SB.out.2.1 SC.out.2.1 SB.out.2.2.1 SC.out.2.2
                  exact ⟨rfl, LL ++ RR, by have := SC.out.1; exact StCh.cong this (by simp [List.append_assoc]), mf.1, by rw [HQ.out.1, HQ.out.2.1]; exact mf.2⟩
            · have _tk : True := trivial
              by_cases q2 : m < e
              · have _tk : True := trivial
                have c1 : ¬ ((s : Int) < (m : Int)) := by omega
                have c2 : (m : Int) < (e : Int) := by omega
                have c3 : (a : Int) < (s : Int) := by omega
                have c4 : (s : Int) < (mid : Int) := by omega
                have c5 : ¬ ((mid : Int) < (e : Int)) := by omega
                have c6 : ¬ ((e : Int) < (b : Int)) := by omega
                have SA : Aside (SWK enc k w0 blk off (X ++ (U1 ++ V1) ++ (U2 ++ V2) ++ Y).toArray wr) := by
                  have hz : U2 = [] := List.eq_nil_of_length_eq_zero (by have q := HQ.out; omega)
                  have := S1.out; rw [HL.out, HQ.out.1, HQ.out.2.1, hz] at this; rw [hz]; exact StCh.cong this (by simp [List.append_assoc])
                have hb := IH2.out (mid - a) (by omega) a s mid X U1 V1 ((U2 ++ V2) ++ Y) wr (by omega) (by have q := HQ.out; omega) (by have q := HQ.out; omega) (by have q := HQ.out; omega) (by have q := HQ.out; omega) (by have q := HQ.out; omega) (by have q := HQ.out; simp; omega) HU1.out HV1.out (by have := SA.out; exact StCh.cong this (by simp [List.append_assoc]))
                have HB : Hid (type_of% hb) := hb
                clear hb
                go_wp2_with fail
                refine HB.out.mono ?_
                rintro e2 w2 ⟨rfl, LL, S3, q1, q2⟩
                have hLl := (q2.length HO.out).symm
                have SB : Aside (SWK enc k w0 blk off (X ++ LL ++ (U2 ++ V2) ++ Y).toArray w2 ∧ SortedL (ltOf cf) LL ∧ Stab (ltOf cf) (U1 ++ V1) LL ∧ LL.length = U1.length + V1.length) := ⟨StCh.cong S3 (by simp [List.append_assoc]), q1, q2, by rw [hLl]; simp⟩
                clear S3 q1 q2 hLl HB SA
                obtain ⟨RR, hRR⟩ : ∃ RR, RR = U2 ++ V2 := ⟨_, rfl⟩
                have SC : Aside (SWK enc k w0 blk off (X ++ LL ++ RR ++ Y).toArray w2 ∧ SortedL (ltOf cf) RR ∧ Stab (ltOf cf) (U2 ++ V2) RR) := by
                  rw [hRR]
                  have hz : U2 = [] := List.eq_nil_of_length_eq_zero (by have q := HQ.out; omega)
                  refine ⟨SB.out.1, ?_, Stab.refl _⟩
                  rw [hz]; simpa using HV2.out
                clear hRR
                go_wp2
                all_goals
                  go_end0
                  have mf := merge_step HO.out U1 U2 V1 V2 LL RR (by rw [← HQ.out.1]; exact HSU.out) (by rw [← HQ.out.2.1]; exact HSV.out) HB1.out HB2.out SB.out.2.1 SC.out.2.1 SB.out.2.2.1 SC.out.2.2
                  exact ⟨rfl, LL ++ RR, by have := SC.out.1; exact StCh.cong this (by simp [List.append_assoc]), mf.1, by rw [HQ.out.1, HQ.out.2.1]; exact mf.2⟩
              · have _tk : True := trivial
                have c1 : ¬ ((s : Int) < (m : Int)) := by omega
                have c2 : ¬ ((m : Int) < (e : Int)) := by omega
                have c3 : (a : Int) < (s : Int) := by omega
                have c4 : ¬ ((s : Int) < (mid : Int)) := by omega
                have c5 : ¬ ((mid : Int) < (e : Int)) := by omega
                have c6 : ¬ ((e : Int) < (b : Int)) := by omega
                have SA : Aside (SWK enc k w0 blk off (X ++ (U1 ++ V1) ++ (U2 ++ V2) ++ Y).toArray wr) := by
                  have hz : U2 = [] := List.eq_nil_of_length_eq_zero (by have q := HQ.out; omega)
                  have := S1.out; rw [HL.out, HQ.out.1, HQ.out.2.1, hz] at this; rw [hz]; exact StCh.cong this (by simp [List.append_assoc])
                obtain ⟨LL, hLL⟩ : ∃ LL, LL = U1 ++ V1 := ⟨_, rfl⟩
                have SB : Aside (SWK enc k w0 blk off (X ++ LL ++ (U2 ++ V2) ++ Y).toArray wr ∧ SortedL (ltOf cf) LL ∧ Stab (ltOf cf) (U1 ++ V1) LL ∧ LL.length = U1.length + V1.length) := by
                  rw [hLL]
                  have hz : V1 = [] := List.eq_nil_of_length_eq_zero (by have q := HQ.out; omega)
                  refine ⟨SA.out, ?_, Stab.refl _, by simp⟩
                  rw [hz]; simpa using HU1.out
                clear hLL
                obtain ⟨RR, hRR⟩ : ∃ RR, RR = U2 ++ V2 := ⟨_, rfl⟩
                have SC : Aside (SWK enc k w0 blk off (X ++ LL ++ RR ++ Y).toArray wr ∧ SortedL (ltOf cf) RR ∧ Stab (ltOf cf) (U2 ++ V2) RR) := by
                  rw [hRR]
                  have hz : U2 = [] := List.eq_nil_of_length_eq_zero (by have q := HQ.out; omega)
                  refine ⟨SB.out.1, ?_, Stab.refl _⟩
                  rw [hz]; simpa using HV2.out
                clear hRR
                go_wp2
                all_goals
                  go_end0
                  have mf := merge_step HO.out U1 U2 V1 V2 LL RR (by rw [← HQ.out.1]; exact HSU.out) (by rw [← HQ.out.2.1]; exact HSV.out) HB1.out HB2.out SB.out.2.1 SC.out.2.1 SB.out.2.2.1 SC.out.2.2
                  exact ⟨rfl, LL ++ RR, by have := SC.out.1; exact StCh.cong this (by simp [List.append_assoc]), mf.1, by rw [HQ.out.1, HQ.out.2.1]; exact mf.2⟩
          · have _tk : True := trivial
            by_cases q6 : e < b
            · have _tk : True := trivial
              by_cases q2 : m < e
              · have _tk : True := trivial
                have c1 : ¬ ((s : Int) < (m : Int)) := by omega
                have c2 : (m : Int) < (e : Int) := by omega
                have c3 : ¬ ((a : Int) < (s : Int)) := by omega
                have c4 : (s : Int) < (mid : Int) := by omega
                have c5 : ¬ ((mid : Int) < (e : Int)) := by omega
                have c6 : (e : Int) < (b : Int) := by omega
                have SA : Aside (SWK enc k w0 blk off (X ++ (U1 ++ V1) ++ (U2 ++ V2) ++ Y).toArray wr) := by
                  have hz : U2 = [] := List.eq_nil_of_length_eq_zero (by have q := HQ.out; omega)
                  have := S1.out; rw [HL.out, HQ.out.1, HQ.out.2.1, hz] at this; rw [hz]; exact StCh.cong this (by simp [List.append_assoc])
                obtain ⟨LL, hLL⟩ : ∃ LL, LL = U1 ++ V1 := ⟨_, rfl⟩
                have SB : Aside (SWK enc k w0 blk off (X ++ LL ++ (U2 ++ V2) ++ Y).toArray wr ∧ SortedL (ltOf cf) LL ∧ Stab (ltOf cf) (U1 ++ V1) LL ∧ LL.length = U1.length + V1.length) := by
                  rw [hLL]
                  have hz : U1 = [] := List.eq_nil_of_length_eq_zero (by have q := HQ.out; omega)
                  refine ⟨SA.out, ?_, Stab.refl _, by simp⟩
                  rw [hz]; simpa using HV1.out
                clear hLL
                obtain ⟨RR, hRR⟩ : ∃ RR, RR = U2 ++ V2 := ⟨_, rfl⟩
                have SC : Aside (SWK enc k w0 blk off (X ++ LL ++ RR ++ Y).toArray wr ∧ SortedL (ltOf cf) RR ∧ Stab (ltOf cf) (U2 ++ V2) RR) := by
                  rw [hRR]
                  have hz : U2 = [] := List.eq_nil_of_length_eq_zero (by have q := HQ.out; omega)
                  refine ⟨SB.out.1, ?_, Stab.refl _⟩
                  rw [hz]; simpa using HV2.out
                clear hRR
                go_wp2
                all_goals
                  go_end0
                  have mf := merge_step HO.out U1 U2 V1 V2 LL RR (by rw [← HQ.out.1]; exact HSU.out) (by rw [← HQ.out.2.1]; exact HSV.out) HB1.out HB2.out SB.out.2.1 SC.out.2.1 SB.out.2.2.1 SC.out.2.2
                  exact ⟨rfl, LL ++ RR, by have := SC.out.1; exact StCh.cong this (by simp [List.append_assoc]), mf.1, by rw [HQ.out.1, HQ.out.2.1]; exact mf.2⟩
              · have _tk : True := trivial
                have c1 : ¬ ((s : Int) < (m : Int)) := by omega
                have c2 : ¬ ((m : Int) < (e : Int)) := by omega
                have c3 : ¬ ((a : Int) < (s : Int)) := by omega
                have c4 : ¬ ((s : Int) < (mid : Int)) := by omega
                have c5 : ¬ ((mid : Int) < (e : Int)) := by omega
                have c6 : (e : Int) < (b : Int) := by omega
                have SA : Aside (SWK enc k w0 blk off (X ++ (U1 ++ V1) ++ (U2 ++ V2) ++ Y).toArray wr) := by
                  have hz : U2 = [] := List.eq_nil_of_length_eq_zero (by have q := HQ.out; omega)
                  have := S1.out; rw [HL.out, HQ.out.1, HQ.out.2.1, hz] at this; rw [hz]; exact StCh.cong this (by simp [List.append_assoc])
                obtain ⟨LL, hLL⟩ : ∃ LL, LL = U1 ++ V1 := ⟨_, rfl⟩
                have SB : Aside (SWK enc k w0 blk off (X ++ LL ++ (U2 ++ V2) ++ Y).toArray wr ∧ SortedL (ltOf cf) LL ∧ Stab (ltOf cf) (U1 ++ V1) LL ∧ LL.length = U1.length + V1.length) := by
                  rw [hLL]
                  have hz : U1 = [] := List.eq_nil_of_length_eq_zero (by have q := HQ.out; omega)
                  refine ⟨SA.out, ?_, Stab.refl _, by simp⟩
                  rw [hz]; simpa using HV1.out
                clear hLL
                obtain ⟨RR, hRR⟩ : ∃ RR, RR = U2 ++ V2 := ⟨_, rfl⟩
                have SC : Aside (SWK enc k w0 blk off (X ++ LL ++ RR ++ Y).toArray wr ∧ SortedL (ltOf cf) RR ∧ Stab (ltOf cf) (U2 ++ V2) RR) := by
                  rw [hRR]
                  have hz : U2 = [] := List.eq_nil_of_length_eq_zero (by have q := HQ.out; omega)
                  refine ⟨SB.out.1, ?_, Stab.refl _⟩
                  rw [hz]; simpa using HV2.out
                clear hRR
                go_wp2
                all_goals
                  go_end0
                  have mf := merge_step HO.out U1 U2 V1 V2 LL RR (by rw [← HQ.out.1]; exact HSU.out) (by rw [← HQ.out.2.1]; exact HSV.out) HB1.out HB2.out SB.out.2.1 SC.out.2.1 SB.out.2.2.1 SC.out.2.2
                  exact ⟨rfl, LL ++ RR, by have := SC.out.1; exact StCh.cong this (by simp [List.append_assoc]), mf.1, by rw [HQ.out.1, HQ.out.2.1]; exact mf.2⟩
            · have _tk : True := trivial
              by_cases q2 : m < e
              · have _tk : True := trivial
                have c1 : ¬ ((s : Int) < (m : Int)) := by omega
                have c2 : (m : Int) < (e : Int) := by omega
                have c3 : ¬ ((a : Int) < (s : Int)) := by omega
                have c4 : (s : Int) < (mid : Int) := by omega
                have c5 : ¬ ((mid : Int) < (e : Int)) := by omega
                have c6 : ¬ ((e : Int) < (b : Int)) := by omega
                have SA : Aside (SWK enc k w0 blk off (X ++ (U1 ++ V1) ++ (U2 ++ V2) ++ Y).toArray wr) := by
                  have hz : U2 = [] := List.eq_nil_of_length_eq_zero (by have q := HQ.out; omega)
                  have := S1.out; rw [HL.out, HQ.out.1, HQ.out.2.1, hz] at this; rw [hz]; exact StCh.cong this (by simp [List.append_assoc])
                obtain ⟨LL, hLL⟩ : ∃ LL, LL = U1 ++ V1 := ⟨_, rfl⟩
                have SB : Aside (SWK enc k w0 blk off (X ++ LL ++ (U2 ++ V2) ++ Y).toArray wr ∧ SortedL (ltOf cf) LL ∧ Stab (ltOf cf) (U1 ++ V1) LL ∧ LL.length = U1.length + V1.length) := by
                  rw [hLL]
                  have hz : U1 = [] := List.eq_nil_of_length_eq_zero (by have q := HQ.out; omega)
                  refine ⟨SA.out, ?_, Stab.refl _, by simp⟩
                  rw [hz]; simpa using HV1.out
                clear hLL
                obtain ⟨RR, hRR⟩ : ∃ RR, RR = U2 ++ V2 := ⟨_, rfl⟩
                have SC : Aside (SWK enc k w0 blk off (X ++ LL ++ RR ++ Y).toArray wr ∧ SortedL (ltOf cf) RR ∧ Stab (ltOf cf) (U2 ++ V2) RR) := by
                  rw [hRR]
                  have hz : U2 = [] := List.eq_nil_of_length_eq_zero (by have q := HQ.out; omega)
                  refine ⟨SB.out.1, ?_, Stab.refl _⟩
                  rw [hz]; simpa using HV2.out
                clear hRR
                go_wp2
                all_goals
                  go_end0
                  have mf := merge_step HO.out U1 U2 V1 V2 LL RR (by rw [← HQ.out.1]; exact HSU.out) (by rw [← HQ.out.2.1]; exact HSV.out) HB1.out HB2.out SB.out.2.1 SC.out.2.1 SB.out.2.2.1 SC.out.2.2
                  exact ⟨rfl, LL ++ RR, by have := SC.out.1; exact StCh.cong this (by simp [List.append_assoc]), mf.1, by rw [HQ.out.1, HQ.out.2.1]; exact mf.2⟩
              · have _tk : True := trivial
                have c1 : ¬ ((s : Int) < (m : Int)) := by omega
                have c2 : ¬ ((m : Int) < (e : Int)) := by omega
                have c3 : ¬ ((a : Int) < (s : Int)) := by omega
                have c4 : ¬ ((s : Int) < (mid : Int)) := by omega
                have c5 : ¬ ((mid : Int) < (e : Int)) := by omega
                have c6 : ¬ ((e : Int) < (b : Int)) := by omega
                have SA : Aside (SWK enc k w0 blk off (X ++ (U1 ++ V1) ++ (U2 ++ V2) ++ Y).toArray wr) := by
                  have hz : U2 = [] := List.eq_nil_of_length_eq_zero (by have q := HQ.out; omega)
                  have := S1.out; rw [HL.out, HQ.out.1, HQ.out.2.1, hz] at this; rw [hz]; exact StCh.cong this (by simp [List.append_assoc])
                obtain ⟨LL, hLL⟩ : ∃ LL, LL = U1 ++ V1 := ⟨_, rfl⟩
                have SB : Aside (SWK enc k w0 blk off (X ++ LL ++ (U2 ++ V2) ++ Y).toArray wr ∧ SortedL (ltOf cf) LL ∧ Stab (ltOf cf) (U1 ++ V1) LL ∧ LL.length = U1.length + V1.length) := by
                  rw [hLL]
                  have hz : U1 = [] := List.eq_nil_of_length_eq_zero (by have q := HQ.out; omega)
                  refine ⟨SA.out, ?_, Stab.refl _, by simp⟩
                  rw [hz]; simpa using HV1.out
                clear hLL
                obtain ⟨RR, hRR⟩ : ∃ RR, RR = U2 ++ V2 := ⟨_, rfl⟩
                have SC : Aside (SWK enc k w0 blk off (X ++ LL ++ RR ++ Y).toArray wr ∧ SortedL (ltOf cf) RR ∧ Stab (ltOf cf) (U2 ++ V2) RR) := by
                  rw [hRR]
                  have hz : U2 = [] := List.eq_nil_of_length_eq_zero (by have q := HQ.out; omega)
                  refine ⟨SB.out.1, ?_, Stab.refl _⟩
                  rw [hz]; simpa using HV2.out
                clear hRR
                go_wp2
                all_goals
                  go_end0
                  have mf := merge_step HO.out U1 U2 V1 V2 LL RR (by rw [← HQ.out.1]; exact HSU.out) (by rw [← HQ.out.2.1]; exact HSV.out) HB1.out HB2.out SB.out.2.1 SC.out.2.1 SB.out.2.2.1 SC.out.2.2
                  exact ⟨rfl, LL ++ RR, by have := SC.out.1; exact StCh.cong this (by simp [List.append_assoc]), mf.1, by rw [HQ.out.1, HQ.out.2.1]; exact mf.2⟩
  · go_enter L.fsym, Try.ntmps53
    have gm : ¬ ((mid : Int) < (m : Int)) := by omega
    go_wp2
    go_loopg [20, 21] (m - a) (fun gk s20 s21 wr => ∃ s r : Nat, s20 = .int .i64 s ∧ s21 = .int .i64 r ∧ a ≤ s ∧ s ≤ r ∧ r ≤ m ∧ r - s ≤ gk ∧ Aside (SWK enc k w0 blk off l.toArray wr) ∧
      Aside ((s = a ∨ ltOf cf l.toArray[mid + m - s]! l.toArray[s - 1]! = false) ∧ (r = m ∨ ltOf cf l.toArray[mid + m - 1 - r]! l.toArray[r]! = true)))
    case atStart => exact ⟨a, m, rfl, rfl, Nat.le_refl _, by omega, Nat.le_refl _, Nat.le_refl _, S0, ⟨.inl rfl, .inl rfl⟩⟩
    case round =>
      clear S0
      obtain ⟨s, r, rfl, rfl, hss, hsr, hrr, hg, S1, I⟩ := hrel
      by_cases hlt : s < r
      · obtain ⟨c, hh⟩ : ∃ c, c = (s + r) / 2 := ⟨_, rfl⟩
        have hz1 : ((s : Int) + (r : Int)) / 2 = (c : Int) := by omega
        have hsc : s ≤ c := by omega
        have hcr : c < r := by omega
        clear hh
        obtain ⟨d, hd⟩ : ∃ d, d = mid + m - 1 - c := ⟨_, rfl⟩
        have hz2 : (mid : Int) + (m : Int) - 1 - (c : Int) = (d : Int) := by omega
        have hdb : d < b := by omega
        have hltz : (s : Int) < (r : Int) := by omega
        have hsz := HE.out.1
        have l1 := S1.out.ld R (by rw [hsz]; exact HE.out.2.symm) P d (by rw [hsz]; omega)
        have l2 := S1.out.ld R (by rw [hsz]; exact HE.out.2.symm) P c (by rw [hsz]; omega)
        obtain ⟨y, hy⟩ : ∃ y, y = l.toArray[d]! := ⟨_, rfl⟩
        obtain ⟨x1, hx1⟩ : ∃ y, y = l.toArray[c]! := ⟨_, rfl⟩
        rw [← hy] at l1
        rw [← hx1] at l2
        have hc := S1.out.cmp HC.out hsz y x1
        have HY : Hid (y = l.toArray[d]! ∧ x1 = l.toArray[c]! ∧ d = mid + m - 1 - c) := ⟨hy, hx1, hd⟩
        clear hsz hy hx1 hd
        have pa1 : (0 : Int) ≤ (d : Int) := by omega
        have ba1 : (d : Int) < (sz : Int) := by omega
        have pa2 : (0 : Int) ≤ (c : Int) := by omega
        have ba2 : (c : Int) < (sz : Int) := by omega
        have rd : IntKind.i64.wrap (d : Int) = (d : Int) := by rw [IntKind.wrap_i64]; omega
        by_cases hlv : cf y x1 < 0
        · have hdv : decide (cf y x1 < 0) = true := decide_eq_true hlv
          go_wp2_with fail
          go_quiet_grown (first | (go_at_fn g; refine Calls.grown_of (hc _ _)))
          have S2 : Aside (SWK enc k w0 blk off l.toArray (grow (wr.drewN nq) osq)) := S1.out.grown nq osq
          clear l1 l2 hc S1 rd
          generalize grow (wr.drewN nq) osq = wv at S2 ⊢
          clear nq osq
          go_wp2
          go_roundg (c - s)
          case measure => omega
          case rel =>
            have I2 : Aside ((s = a ∨ ltOf cf l.toArray[mid + m - s]! l.toArray[s - 1]! = false) ∧ (c = m ∨ ltOf cf l.toArray[mid + m - 1 - c]! l.toArray[c]! = true)) := ⟨I.out.1, .inr (by rw [← HY.out.2.2, ← HY.out.1, ← HY.out.2.1]; exact hdv)⟩
            exact ⟨s, c, rfl, rfl, hss, hsc, by omega, Nat.le_refl _, S2, I2⟩
        -- not less
        · have hdv : decide (cf y x1 < 0) = false := decide_eq_false hlv
          go_wp2_with fail
          go_quiet_grown (first | (go_at_fn g; refine Calls.grown_of (hc _ _)))
          have S2 : Aside (SWK enc k w0 blk off l.toArray (grow (wr.drewN nq) osq)) := S1.out.grown nq osq
          clear l1 l2 hc S1 rd
          generalize grow (wr.drewN nq) osq = wv at S2 ⊢
          clear nq osq
          go_wp2
          go_roundg (r - (c + 1))
          case measure => omega
          case rel =>
            have I2 : Aside ((c + 1 = a ∨ ltOf cf l.toArray[mid + m - (c + 1)]! l.toArray[c + 1 - 1]! = false) ∧ (r = m ∨ ltOf cf l.toArray[mid + m - 1 - r]! l.toArray[r]! = true)) := ⟨.inr (by rw [Nat.add_sub_cancel, show mid + m - (c + 1) = mid + m - 1 - c from by omega, ← HY.out.2.2, ← HY.out.1, ← HY.out.2.1]; exact hdv), I.out.2⟩
            exact ⟨c + 1, r, by go_num, rfl, by omega, by omega, hrr, Nat.le_refl _, S2, I2⟩
      · obtain rfl : r = s := by omega
        obtain ⟨e, he⟩ : ∃ e, e = mid + m - r := ⟨_, rfl⟩
        have ze : (mid : Int) + (m : Int) - (r : Int) = (e : Int) := by omega
        have k1 : a ≤ r := by omega
        have k2 : r ≤ m := by omega
        have k3 : m ≤ e := by omega
        have k4 : e ≤ b := by omega
        have k5 : r ≤ mid := by omega
        have k6 : r + e ≤ mid + m := by omega
        have k7 : mid + m ≤ r + e := by omega
        have hI : (r = a ∨ ltOf cf l.toArray[e]! l.toArray[r - 1]! = false ∨ e = b) ∧ (r = m ∨ ltOf cf l.toArray[e - 1]! l.toArray[r]! = true ∨ e = m) := by
          have h := I.out; rw [← he, show mid + m - 1 - r = e - 1 from by omega] at h
          exact ⟨h.1.elim (fun h => .inl h) (fun h => .inr (.inl h)), h.2.elim (fun h => .inl h) (fun h => .inr (.inl h))⟩
        clear he I hss hrr hg hlt gm
        have hnn : ¬ ((r : Int) < (r : Int)) := by omega
        obtain ⟨s, hs_⟩ : ∃ s, s = r := ⟨_, rfl⟩
        subst hs_
        obtain ⟨U1, U2, hU, hU1⟩ : ∃ U1 U2, U = U1 ++ U2 ∧ U1.length = s - a := ⟨U.take (s - a), U.drop (s - a), (List.take_append_drop _ _).symm, by have q := HM.out; simp; omega⟩
        obtain ⟨V1, V2, hV, hV1⟩ : ∃ V1 V2, V = V1 ++ V2 ∧ V1.length = e - m := ⟨V.take (e - m), V.drop (e - m), (List.take_append_drop _ _).symm, by have q := HM.out; simp; omega⟩
        have HQ : Hid (U = U1 ++ U2 ∧ V = V1 ++ V2 ∧ X.length = a ∧ a + U1.length = s ∧ s + U2.length = m ∧ m + V1.length = e ∧ e + V2.length = b ∧ b + Y.length = sz ∧ mid + m = s + e) := by
          have q := HM.out
          have p1 := congrArg List.length hU; have p2 := congrArg List.length hV
          simp at p1 p2
          exact ⟨hU, hV, by omega, by omega, by omega, by omega, by omega, by omega, by omega⟩
        have HU1 : Aside (SortedL (ltOf cf) U1) := by have q := HSU.out; rw [hU] at q; exact SortedL.left (lt := ltOf cf) q
        have HU2 : Aside (SortedL (ltOf cf) U2) := by have q := HSU.out; rw [hU] at q; exact SortedL.right (lt := ltOf cf) q
        have HV1 : Aside (SortedL (ltOf cf) V1) := by have q := HSV.out; rw [hV] at q; exact SortedL.left (lt := ltOf cf) q
        have HV2 : Aside (SortedL (ltOf cf) V2) := by have q := HSV.out; rw [hV] at q; exact SortedL.right (lt := ltOf cf) q
        have HB1 : Aside (∀ u, U2.head? = some u → ∀ v, V1.getLast? = some v → ltOf cf v u = true) := by
          intro u hu v hv
          obtain ⟨V1', rfl⟩ := List.getLast?_eq_some_iff.1 hv
          cases U2 with
          | nil => cases hu
          | cons u' U3 =>
            have hu' : u' = u := by simpa using hu
            subst hu'
            have q := HQ.out
            have h := hI.2
            have h := (h.resolve_left (by simp at q; omega)).resolve_right (by simp at q; omega)
            have e1 : l = (X ++ U1) ++ u' :: (U3 ++ ((V1' ++ [v]) ++ V2) ++ Y) := by rw [HL.out, q.1, q.2.1]; simp
            have e2 : l = (X ++ (U1 ++ u' :: U3) ++ V1') ++ v :: (V2 ++ Y) := by rw [HL.out, q.1, q.2.1]; simp
            have f1 := get_mid (X ++ U1) u' (U3 ++ ((V1' ++ [v]) ++ V2) ++ Y)
            have f2 := get_mid (X ++ (U1 ++ u' :: U3) ++ V1') v (V2 ++ Y)
            rw [← e1, show (X ++ U1).length = s from by simp; omega] at f1
            rw [← e2, show (X ++ (U1 ++ u' :: U3) ++ V1').length = e - 1 from by simp at q ⊢; omega] at f2
            rw [f1, f2] at h
            exact h
        have HB2 : Aside (∀ u, U1.getLast? = some u → ∀ v, V2.head? = some v → ltOf cf v u = false) := by
          intro u hu v hv
          obtain ⟨U1', rfl⟩ := List.getLast?_eq_some_iff.1 hu
          cases V2 with
          | nil => cases hv
          | cons v' V3 =>
            have hv' : v' = v := by simpa using hv
            subst hv'
            have q := HQ.out
            have h := hI.1
            have h := (h.resolve_left (by simp at q; omega)).resolve_right (by simp at q; omega)
            have e1 : l = (X ++ U1') ++ u :: (U2 ++ (V1 ++ v' :: V3) ++ Y) := by rw [HL.out, q.1, q.2.1]; simp
            have e2 : l = (X ++ ((U1' ++ [u]) ++ U2) ++ V1) ++ v' :: (V3 ++ Y) := by rw [HL.out, q.1, q.2.1]; simp
            have f1 := get_mid (X ++ U1') u (U2 ++ (V1 ++ v' :: V3) ++ Y)
            have f2 := get_mid (X ++ ((U1' ++ [u]) ++ U2) ++ V1) v' (V3 ++ Y)
            rw [← e1, show (X ++ U1').length = s - 1 from by simp at q ⊢; omega] at f1
            rw [← e2, show (X ++ ((U1' ++ [u]) ++ U2) ++ V1).length = e from by simp at q ⊢; omega] at f2
            rw [f1, f2] at h
            exact h
        clear hI hU hU1 hV hV1
        by_cases q1 : s < m
        · have _tk : True := trivial
          by_cases q3 : a < s
          · have _tk : True := trivial
            by_cases q6 : e < b
            · have _tk : True := trivial
              by_cases q2 : m < e
              · have _tk : True := trivial
                have c1 : (s : Int) < (m : Int) := by omega
                have c2 : (m : Int) < (e : Int) := by omega
                have c3 : (a : Int) < (s : Int) := by omega
                have c4 : (s : Int) < (mid : Int) := by omega
                have c5 : (mid : Int) < (e : Int) := by omega
                have c6 : (e : Int) < (b : Int) := by omega
                have hr := StCh.rotate L enc g cb blk off cap s m e sz (X ++ U1) U2 V1 (V2 ++ Y) d0 w0 wr R (by have q := HQ.out; simp; omega) (by have q := HQ.out; simp; omega) (by have q := HQ.out; simp; omega) (by have q := HQ.out; omega) (by have q := HQ.out; omega) (by have q := HQ.out; simp; omega) HE.out.2 hbig (by have := S1.out; rw [HL.out, HQ.out.1, HQ.out.2.1] at this; exact StCh.cong this (by simp [List.append_assoc]))
                have HR : Hid (type_of% hr) := hr
                clear hr
                go_wp2_with fail
                refine HR.out.mono ?_
                rintro e1 w1 ⟨rfl, S2⟩
                have SA : Aside (SWK enc k w0 blk off (X ++ (U1 ++ V1) ++ (U2 ++ V2) ++ Y).toArray w1) := StCh.cong S2 (by simp [List.append_assoc])
                clear S2 HR
                have hb := IH2.out (mid - a) (by omega) a s mid X U1 V1 ((U2 ++ V2) ++ Y) w1 (by omega) (by have q := HQ.out; omega) (by have q := HQ.out; omega) (by have q := HQ.out; omega) (by have q := HQ.out; omega) (by have q := HQ.out; omega) (by have q := HQ.out; simp; omega) HU1.out HV1.out (by have := SA.out; exact StCh.cong this (by simp [List.append_assoc]))
                have HB : Hid (type_of% hb) := hb
                clear hb
                go_wp2_with fail
                refine HB.out.mono ?_
                rintro e2 w2 ⟨rfl, LL, S3, q1, q2⟩
                have hLl := (q2.length HO.out).symm
                have SB : Aside (SWK enc k w0 blk off (X ++ LL ++ (U2 ++ V2) ++ Y).toArray w2 ∧ SortedL (ltOf cf) LL ∧ Stab (ltOf cf) (U1 ++ V1) LL ∧ LL.length = U1.length + V1.length) := ⟨StCh.cong S3 (by simp [List.append_assoc]), q1, q2, by rw [hLl]; simp⟩
                clear S3 q1 q2 hLl HB SA
                have hd := IH2.out (b - mid) (by omega) mid e b (X ++ LL) U2 V2 Y w2 (by omega) (by have q := HQ.out; have q2 := SB.out.2.2.2; simp; omega) (by have q := HQ.out; have q2 := SB.out.2.2.2; simp; omega) (by have q := HQ.out; have q2 := SB.out.2.2.2; simp; omega) (by have q := HQ.out; omega) (by have q := HQ.out; omega) (by have q := HQ.out; have q2 := SB.out.2.2.2; simp; omega) HU2.out HV2.out (by have := SB.out.1; exact StCh.cong this (by simp [List.append_assoc]))
                have HD : Hid (type_of% hd) := hd
                clear hd
                go_wp2_with fail
                refine HD.out.mono ?_
                rintro e3 w3 ⟨rfl, RR, S4, q1, q2⟩
                have SC : Aside (SWK enc k w0 blk off (X ++ LL ++ RR ++ Y).toArray w3 ∧ SortedL (ltOf cf) RR ∧ Stab (ltOf cf) (U2 ++ V2) RR) := ⟨StCh.cong S4 (by simp [List.append_assoc]), q1, q2⟩
                clear S4 q1 q2 HD
                go_wp2
                all_goals
                  go_end0
                  have mf := merge_step HO.out U1 U2 V1 V2 LL RR (by rw [← HQ.out.1]; exact HSU.out) (by rw [← HQ.out.2.1]; exact HSV.out) HB1.out HB2.out SB.out.2.1 SC.out.2.1 SB.out.2.2.1 SC.out.2.2
                  exact ⟨rfl, LL ++ RR, by have := SC.out.1; exact StCh.cong this (by simp [List.append_assoc]), mf.1, by rw [HQ.out.1, HQ.out.2.1]; exact mf.2⟩
              · have _tk : True := trivial
                have c1 : (s : Int) < (m : Int) := by omega
                have c2 : ¬ ((m : Int) < (e : Int)) := by omega
                have c3 : (a : Int) < (s : Int) := by omega
                have c4 : ¬ ((s : Int) < (mid : Int)) := by omega
                have c5 : (mid : Int) < (e : Int) := by omega
                have c6 : (e : Int) < (b : Int) := by omega
                have SA : Aside (SWK enc k w0 blk off (X ++ (U1 ++ V1) ++ (U2 ++ V2) ++ Y).toArray wr) := by
                  have hz : V1 = [] := List.eq_nil_of_length_eq_zero (by have q := HQ.out; omega)
                  have := S1.out; rw [HL.out, HQ.out.1, HQ.out.2.1, hz] at this; rw [hz]; exact StCh.cong this (by simp [List.append_assoc])
                obtain ⟨LL, hLL⟩ : ∃ LL, LL = U1 ++ V1 := ⟨_, rfl⟩
                have SB : Aside (SWK enc k w0 blk off (X ++ LL ++ (U2 ++ V2) ++ Y).toArray wr ∧ SortedL (ltOf cf) LL ∧ Stab (ltOf cf) (U1 ++ V1) LL ∧ LL.length = U1.length + V1.length) := by
                  rw [hLL]
                  have hz : V1 = [] := List.eq_nil_of_length_eq_zero (by have q := HQ.out; omega)
                  refine ⟨SA.out, ?_, Stab.refl _, by simp⟩
                  rw [hz]; simpa using HU1.out
                clear hLL
                have hd := IH2.out (b - mid) (by omega) mid e b (X ++ LL) U2 V2 Y wr (by omega) (by have q := HQ.out; have q2 := SB.out.2.2.2; simp; omega) (by have q := HQ.out; have q2 := SB.out.2.2.2; simp; omega) (by have q := HQ.out; have q2 := SB.out.2.2.2; simp; omega) (by have q := HQ.out; omega) (by have q := HQ.out; omega) (by have q := HQ.out; have q2 := SB.out.2.2.2; simp; omega) HU2.out HV2.out (by have := SB.out.1; exact StCh.cong this (by simp [List.append_assoc]))
                have HD : Hid (type_of% hd) := hd
                clear hd
                go_wp2_with fail
                refine HD.out.mono ?_
                rintro e3 w3 ⟨rfl, RR, S4, q1, q2⟩
                have SC : Aside (SWK enc k w0 blk off (X ++ LL ++ RR ++ Y).toArray w3 ∧ SortedL (ltOf cf) RR ∧ Stab (ltOf cf) (U2 ++ V2) RR) := ⟨StCh.cong S4 (by simp [List.append_assoc]), q1, q2⟩
                clear S4 q1 q2 HD
                go_wp2
                all_goals
                  go_end0
                  have mf := merge_step HO.out U1 U2 V1 V2 LL RR (by rw [← HQ.out.1]; exact HSU.out) (by rw [← HQ.out.2.1]; exact HSV.out) HB1.out HB2.out SB.out.2.1 SC.out.2.1 SB.out.2.2.1 SC.out.2.2
                  exact ⟨rfl, LL ++ RR, by have := SC.out.1; exact StCh.cong this (by simp [List.append_assoc]), mf.1, by rw [HQ.out.1, HQ.out.2.1]; exact mf.2⟩
            · have _tk : True := trivial
              by_cases q2 : m < e
              · have _tk : True := trivial
                have c1 : (s : Int) < (m : Int) := by omega
                have c2 : (m : Int) < (e : Int) := by omega
                have c3 : (a : Int) < (s : Int) := by omega
                have c4 : (s : Int) < (mid : Int) := by omega
                have c5 : (mid : Int) < (e : Int) := by omega
                have c6 : ¬ ((e : Int) < (b : Int)) := by omega
                have hr := StCh.rotate L enc g cb blk off cap s m e sz (X ++ U1) U2 V1 (V2 ++ Y) d0 w0 wr R (by have q := HQ.out; simp; omega) (by have q := HQ.out; simp; omega) (by have q := HQ.out; simp; omega) (by have q := HQ.out; omega) (by have q := HQ.out; omega) (by have q := HQ.out; simp; omega) HE.out.2 hbig (by have := S1.out; rw [HL.out, HQ.out.1, HQ.out.2.1] at this; exact StCh.cong this (by simp [List.append_assoc]))
                have HR : Hid (type_of% hr) := hr
                clear hr
                go_wp2_with fail
                refine HR.out.mono ?_
                rintro e1 w1 ⟨rfl, S2⟩
                have SA : Aside (SWK enc k w0 blk off (X ++ (U1 ++ V1) ++ (U2 ++ V2) ++ Y).toArray w1) := StCh.cong S2 (by simp [List.append_assoc])
                clear S2 HR
                have hb := IH2.out (mid - a) (by omega) a s mid X U1 V1 ((U2 ++ V2) ++ Y) w1 (by omega) (by have q := HQ.out; omega) (by have q := HQ.out; omega) (by have q := HQ.out; omega) (by have q := HQ.out; omega) (by have q := HQ.out; omega) (by have q := HQ.out; simp; omega) HU1.out HV1.out (by have := SA.out; exact StCh.cong this (by simp [List.append_assoc]))
                have HB : Hid (type_of% hb) := hb
                clear hb
                go_wp2_with fail
                refine HB.out.mono ?_
                rintro e2 w2 ⟨rfl, LL, S3, q1, q2⟩
                have hLl := (q2.length HO.out).symm
                have SB : Aside (SWK enc k w0 blk off (X ++ LL ++ (U2 ++ V2) ++ Y).toArray w2 ∧ SortedL (ltOf cf) LL ∧ Stab (ltOf cf) (U1 ++ V1) LL ∧ LL.length = U1.length + V1.length) := ⟨StCh.cong S3 (by simp [List.append_assoc]), q1, q2, by rw [hLl]; simp⟩
                clear S3 q1 q2 hLl HB SA
                obtain ⟨RR, hRR⟩ : ∃ RR, RR = U2 ++ V2 := ⟨_, rfl⟩
                have SC : Aside (SWK enc k w0 blk off (X ++ LL ++ RR ++ Y).toArray w2 ∧ SortedL (ltOf cf) RR ∧ Stab (ltOf cf) (U2 ++ V2) RR) := by
                  rw [hRR]
                  have hz : V2 = [] := List.eq_nil_of_length_eq_zero (by have q := HQ.out; omega)
                  refine ⟨SB.out.1, ?_, Stab.refl _⟩
                  rw [hz]; simpa using HU2.out
                clear hRR
                go_wp2
                all_goals
                  go_end0
                  have mf := merge_step HO.out U1 U2 V1 V2 LL RR (by rw [← HQ.out.1]; exact HSU.out) (by rw [← HQ.out.2.1]; exact HSV.out) HB1.out HB2.out SB.out.2.1 SC.out.2.1 SB.out.2.2.1 SC.out.2.2
                  exact ⟨rfl, LL ++ RR, by have := SC.out.1; exact StCh.cong this (by simp [List.append_assoc]), mf.1, by rw [HQ.out.1, HQ.out.2.1]; exact mf.2⟩
              · have _tk : True := trivial
                have c1 : (s : Int) < (m : Int) := by omega
                have c2 : ¬ ((m : Int) < (e : Int)) := by omega
                have c3 : (a : Int) < (s : Int) := by omega
                have c4 : ¬ ((s : Int) < (mid : Int)) := by omega
                have c5 : (mid : Int) < (e : Int) := by omega
                have c6 : ¬ ((e : Int) < (b : Int)) := by omega
                have SA : Aside (SWK enc k w0 blk off (X ++ (U1 ++ V1) ++ (U2 ++ V2) ++ Y).toArray wr) := by
                  have hz : V1 = [] := List.eq_nil_of_length_eq_zero (by have q := HQ.out; omega)
                  have := S1.out; rw [HL.out, HQ.out.1, HQ.out.2.1, hz] at this; rw [hz]; exact StCh.cong this (by simp [List.append_assoc])
                obtain ⟨LL, hLL⟩ : ∃ LL, LL = U1 ++ V1 := ⟨_, rfl⟩
                have SB : Aside (SWK enc k w0 blk off (X ++ LL ++ (U2 ++ V2) ++ Y).toArray wr ∧ SortedL (ltOf cf) LL ∧ Stab (ltOf cf) (U1 ++ V1) LL ∧ LL.length = U1.length + V1.length) := by
                  rw [hLL]
                  have hz : V1 = [] := List.eq_nil_of_length_eq_zero (by have q := HQ.out; omega)
                  refine ⟨SA.out, ?_, Stab.refl _, by simp⟩
                  rw [hz]; simpa using HU1.out
                clear hLL
                obtain ⟨RR, hRR⟩ : ∃ RR, RR = U2 ++ V2 := ⟨_, rfl⟩
                have SC : Aside (SWK enc k w0 blk off (X ++ LL ++ RR ++ Y).toArray wr ∧ SortedL (ltOf cf) RR ∧ Stab (ltOf cf) (U2 ++ V2) RR) := by
                  rw [hRR]
                  have hz : V2 = [] := List.eq_nil_of_length_eq_zero (by have q := HQ.out; omega)
                  refine ⟨SB.out.1, ?_, Stab.refl _⟩
                  rw [hz]; simpa using HU2.out
                clear hRR
                go_wp2
                all_goals
                  go_end0
                  have mf := merge_step HO.out U1 U2 V1 V2 LL RR (by rw [← HQ.out.1]; exact HSU.out) (by rw [← HQ.out.2.1]; exact HSV.out) HB1.out HB2.out SB.out.2.1 SC.out.2.1 SB.out.2.2.1 SC.out.2.2
                  exact ⟨rfl, LL ++ RR, by have := SC.out.1; exact StCh.cong this (by simp [List.append_assoc]), mf.1, by rw [HQ.out.1, HQ.out.2.1]; exact mf.2⟩
          · have _tk : True := trivial
            by_cases q6 : e < b
            · have _tk : True := trivial
              by_cases q2 : m < e
              · have _tk : True := trivial
                have c1 : (s : Int) < (m : Int) := by omega
                have c2 : (m : Int) < (e : Int) := by omega
                have c3 : ¬ ((a : Int) < (s : Int)) := by omega
                have c4 : (s : Int) < (mid : Int) := by omega
                have c5 : (mid : Int) < (e : Int) := by omega
                have c6 : (e : Int) < (b : Int) := by omega
                have hr := StCh.rotate L enc g cb blk off cap s m e sz (X ++ U1) U2 V1 (V2 ++ Y) d0 w0 wr R (by have q := HQ.out; simp; omega) (by have q := HQ.out; simp; omega) (by have q := HQ.out; simp; omega) (by have q := HQ.out; omega) (by have q := HQ.out; omega) (by have q := HQ.out; simp; omega) HE.out.2 hbig (by have := S1.out; rw [HL.out, HQ.out.1, HQ.out.2.1] at this; exact StCh.cong this (by simp [List.append_assoc]))
                have HR : Hid (type_of% hr) := hr
                clear hr
                go_wp2_with fail
                refine HR.out.mono ?_
                rintro e1 w1 ⟨rfl, S2⟩
                have SA : Aside (SWK enc k w0 blk off (X ++ (U1 ++ V1) ++ (U2 ++ V2) ++ Y).toArray w1) := StCh.cong S2 (by simp [List.append_assoc])
                clear S2 HR
                obtain ⟨LL, hLL⟩ : ∃ LL, LL = U1 ++ V1 := ⟨_, rfl⟩
                have SB : Aside (SWK enc k w0 blk off (X ++ LL ++ (U2 ++ V2) ++ Y).toArray w1 ∧ SortedL (ltOf cf) LL ∧ Stab (ltOf cf) (U1 ++ V1) LL ∧ LL.length = U1.length + V1.length) := by
                  rw [hLL]
                  have hz : U1 = [] := List.eq_nil_of_length_eq_zero (by have q := HQ.out; omega)
                  refine ⟨SA.out, ?_, Stab.refl _, by simp⟩
                  rw [hz]; simpa using HV1.out
                clear hLL
                have hd := IH2.out (b - mid) (by omega) mid e b (X ++ LL) U2 V2 Y w1 (by omega) (by have q := HQ.out; have q2 := SB.out.2.2.2; simp; omega) (by have q := HQ.out; have q2 := SB.out.2.2.2; simp; omega) (by have q := HQ.out; have q2 := SB.out.2.2.2; simp; omega) (by have q := HQ.out; omega) (by have q := HQ.out; omega) (by have q := HQ.out; have q2 := SB.out.2.2.2; simp; omega) HU2.out HV2.out (by have := SB.out.1; exact StCh.cong this (by simp [List.append_assoc]))
                have HD : Hid (type_of% hd) := hd
                clear hd
                go_wp2_with fail
                refine HD.out.mono ?_
                rintro e3 w3 ⟨rfl, RR, S4, q1, q2⟩
                have SC : Aside (SWK enc k w0 blk off (X ++ LL ++ RR ++ Y).toArray w3 ∧ SortedL (ltOf cf) RR ∧ Stab (ltOf cf) (U2 ++ V2) RR) := ⟨StCh.cong S4 (by simp [List.append_assoc]), q1, q2⟩
                clear S4 q1 q2 HD
                go_wp2
                all_goals
                  go_end0
                  have mf := merge_step HO.out U1 U2 V1 V2 LL RR (by rw [← HQ.out.1]; exact HSU.out) (by rw [← HQ.out.2.1]; exact HSV.out) HB1.out HB2.out SB.out.2.1 SC.out.2.1 SB.out.2.2.1 SC.out.2.2
                  exact ⟨rfl, LL ++ RR, by have := SC.out.1; exact StCh.cong this (by simp [List.append_assoc]), mf.1, by rw [HQ.out.1, HQ.out.2.1]; exact mf.2⟩
              · have _tk : True := trivial
                have c1 : (s : Int) < (m : Int) := by omega
                have c2 : ¬ ((m : Int) < (e : Int)) := by omega
                have c3 : ¬ ((a : Int) < (s : Int)) := by omega
                have c4 : ¬ ((s : Int) < (mid : Int)) := by omega
                have c5 : (mid : Int) < (e : Int) := by omega
                have c6 : (e : Int) < (b : Int) := by omega
                have SA : Aside (SWK enc k w0 blk off (X ++ (U1 ++ V1) ++ (U2 ++ V2) ++ Y).toArray wr) := by
                  have hz : V1 = [] := List.eq_nil_of_length_eq_zero (by have q := HQ.out; omega)
                  have := S1.out; rw [HL.out, HQ.out.1, HQ.out.2.1, hz] at this; rw [hz]; exact StCh.cong this (by simp [List.append_assoc])
                obtain ⟨LL, hLL⟩ : ∃ LL, LL = U1 ++ V1 := ⟨_, rfl⟩
                have SB : Aside (SWK enc k w0 blk off (X ++ LL ++ (U2 ++ V2) ++ Y).toArray wr ∧ SortedL (ltOf cf) LL ∧ Stab (ltOf cf) (U1 ++ V1) LL ∧ LL.length = U1.length + V1.length) := by
                  rw [hLL]
                  have hz : U1 = [] := List.eq_nil_of_length_eq_zero (by have q := HQ.out; omega)
                  refine ⟨SA.out, ?_, Stab.refl _, by simp⟩
                  rw [hz]; simpa using HV1.out
                clear hLL
                have hd := IH2.out (b - mid) (by omega) mid e b (X ++ LL) U2 V2 Y wr (by omega) (by have q := HQ.out; have q2 := SB.out.2.2.2; simp; omega) (by have q := HQ.out; have q2 := SB.out.2.2.2; simp; omega) (by have q := HQ.out; have q2 := SB.out.2.2.2; simp; omega) (by have q := HQ.out; omega) (by have q := HQ.out; omega) (by have q := HQ.out; have q2 := SB.out.2.2.2; simp; omega) HU2.out HV2.out (by have := SB.out.1; exact StCh.cong this (by simp [List.append_assoc]))
                have HD : Hid (type_of% hd) := hd
                clear hd
                go_wp2_with fail
                refine HD.out.mono ?_
                rintro e3 w3 ⟨rfl, RR, S4, q1, q2⟩
                have SC : Aside (SWK enc k w0 blk off (X ++ LL ++ RR ++ Y).toArray w3 ∧ SortedL (ltOf cf) RR ∧ Stab (ltOf cf) (U2 ++ V2) RR) := ⟨StCh.cong S4 (by simp [List.append_assoc]), q1, q2⟩
                clear S4 q1 q2 HD
                go_wp2
                all_goals
                  go_end0
                  have mf := merge_step HO.out U1 U2 V1 V2 LL RR (by rw [← HQ.out.1]; exact HSU.out) (by rw [← HQ.out.2.1]; exact HSV.out) HB1.out HB2.out SB.out.2.1 SC.out.2.1 SB.out.2.2.1 SC.out.2.2
                  exact ⟨rfl, LL ++ RR, by have := SC.out.1; exact StCh.cong this (by simp [List.append_assoc]), mf.1, by rw [HQ.out.1, HQ.out.2.1]; exact mf.2⟩
            · have _tk : True := trivial
              by_cases q2 : m < e
              · have _tk : True := trivial
                have c1 : (s : Int) < (m : Int) := by omega
                have c2 : (m : Int) < (e : Int) := by omega
                have c3 : ¬ ((a : Int) < (s : Int)) := by omega
                have c4 : (s : Int) < (mid : Int) := by omega
                have c5 : (mid : Int) < (e : Int) := by omega
                have c6 : ¬ ((e : Int) < (b : Int)) := by omega
                have hr := StCh.rotate L enc g cb blk off cap s m e sz (X ++ U1) U2 V1 (V2 ++ Y) d0 w0 wr R (by have q := HQ.out; simp; omega) (by have q := HQ.out; simp; omega) (by have q := HQ.out; simp; omega) (by have q := HQ.out; omega) (by have q := HQ.out; omega) (by have q := HQ.out; simp; omega) HE.out.2 hbig (by have := S1.out; rw [HL.out, HQ.out.1, HQ.out.2.1] at this; exact StCh.cong this (by simp [List.append_assoc]))
                have HR : Hid (type_of% hr) := hr
                clear hr
                go_wp2_with fail
                refine HR.out.mono ?_
                rintro e1 w1 ⟨rfl, S2⟩
                have SA : Aside (SWK enc k w0 blk off (X ++ (U1 ++ V1) ++ (U2 ++ V2) ++ Y).toArray w1) := StCh.cong S2 (by simp [List.append_assoc])
                clear S2 HR
                obtain ⟨LL, hLL⟩ : ∃ LL, LL = U1 ++ V1 := ⟨_, rfl⟩
                have SB : Aside (SWK enc k w0 blk off (X ++ LL ++ (U2 ++ V2) ++ Y).toArray w1 ∧ SortedL (ltOf cf) LL ∧ Stab (ltOf cf) (U1 ++ V1) LL ∧ LL.length = U1.length + V1.length) := by
                  rw [hLL]
                  have hz : U1 = [] := List.eq_nil_of_length_eq_zero (by have q := HQ.out; omega)
                  refine ⟨SA.out, ?_, Stab.refl _, by simp⟩
                  rw [hz]; simpa using HV1.out
                clear hLL
                obtain ⟨RR, hRR⟩ : ∃ RR, RR = U2 ++ V2 := ⟨_, rfl⟩
                have SC : Aside (SWK enc k w0 blk off (X ++ LL ++ RR ++ Y).toArray w1 ∧ SortedL (ltOf cf) RR ∧ Stab (ltOf cf) (U2 ++ V2) RR) := by
                  rw [hRR]
                  have hz : V2 = [] := List.eq_nil_of_length_eq_zero (by have q := HQ.out; omega)
                  refine ⟨SB.out.1, ?_, Stab.refl _⟩
                  rw [hz]; simpa using HU2.out
                clear hRR
                go_wp2
                all_goals
                  go_end0
                  have mf := merge_step HO.out U1 U2 V1 V2 LL RR (by rw [← HQ.out.1]; exact HSU.out) (by rw [← HQ.out.2.1]; exact HSV.out) HB1.out HB2.out SB.out.2.1 SC.out.2.1 SB.out.2.2.1 SC.out.2.2
                  exact ⟨rfl, LL ++ RR, by have := SC.out.1; exact StCh.cong this (by simp [List.append_assoc]), mf.1, by rw [HQ.out.1, HQ.out.2.1]; exact mf.2⟩
              · have _tk : True := trivial
                have c1 : (s : Int) < (m : Int) := by omega
                have c2 : ¬ ((m : Int) < (e : Int)) := by omega
                have c3 : ¬ ((a : Int) < (s : Int)) := by omega
                have c4 : ¬ ((s : Int) < (mid : Int)) := by omega
                have c5 : (mid : Int) < (e : Int) := by omega
                have c6 : ¬ ((e : Int) < (b : Int)) := by omega
                have SA : Aside (SWK enc k w0 blk off (X ++ (U1 ++ V1) ++ (U2 ++ V2) ++ Y).toArray wr) := by
                  have hz : V1 = [] := List.eq_nil_of_length_eq_zero (by have q := HQ.out; omega)
                  have := S1.out; rw [HL.out, HQ.out.1, HQ.out.2.1, hz] at this; rw [hz]; exact StCh.cong this (by simp [List.append_assoc])
                obtain ⟨LL, hLL⟩ : ∃ LL, LL = U1 ++ V1 := ⟨_, rfl⟩
                have SB : Aside (SWK enc k w0 blk off (X ++ LL ++ (U2 ++ V2) ++ Y).toArray wr ∧ SortedL (ltOf cf) LL ∧ Stab (ltOf cf) (U1 ++ V1) LL ∧ LL.length = U1.length + V1.length) := by
                  rw [hLL]
                  have hz : U1 = [] := List.eq_nil_of_length_eq_zero (by have q := HQ.out; omega)
                  refine ⟨SA.out, ?_, Stab.refl _, by simp⟩
                  rw [hz]; simpa using HV1.out
                clear hLL
                obtain ⟨RR, hRR⟩ : ∃ RR, RR = U2 ++ V2 := ⟨_, rfl⟩
                have SC : Aside (SWK enc k w0 blk off (X ++ LL ++ RR ++ Y).toArray wr ∧ SortedL (ltOf cf) RR ∧ Stab (ltOf cf) (U2 ++ V2) RR) := by
                  rw [hRR]
                  have hz : V2 = [] := List.eq_nil_of_length_eq_zero (by have q := HQ.out; omega)
                  refine ⟨SB.out.1, ?_, Stab.refl _⟩
                  rw [hz]; simpa using HU2.out
                clear hRR
                go_wp2
                all_goals
                  go_end0
                  have mf := merge_step HO.out U1 U2 V1 V2 LL RR (by rw [← HQ.out.1]; exact HSU.out) (by rw [← HQ.out.2.1]; exact HSV.out) HB1.out HB2.out SB.out.2.1 SC.out.2.1 SB.out.2.2.1 SC.out.2.2
                  exact ⟨rfl, LL ++ RR, by have := SC.out.1; exact StCh.cong this (by simp [List.append_assoc]), mf.1, by rw [HQ.out.1, HQ.out.2.1]; exact mf.2⟩
        · have _tk : True := trivial
          by_cases q3 : a < s
          · have _tk : True := trivial
            by_cases q6 : e < b
            · have _tk : True := trivial
              by_cases q2 : m < e
              · have _tk : True := trivial
                have c1 : ¬ ((s : Int) < (m : Int)) := by omega
                have c2 : (m : Int) < (e : Int) := by omega
                have c3 : (a : Int) < (s : Int) := by omega
                have c4 : (s : Int) < (mid : Int) := by omega
                have c5 : ¬ ((mid : Int) < (e : Int)) := by omega
                have c6 : (e : Int) < (b : Int) := by omega
                have SA : Aside (SWK enc k w0 blk off (X ++ (U1 ++ V1) ++ (U2 ++ V2) ++ Y).toArray wr) := by
                  have hz : U2 = [] := List.eq_nil_of_length_eq_zero (by have q := HQ.out; omega)
                  have := S1.out; rw [HL.out, HQ.out.1, HQ.out.2.1, hz] at this; rw [hz]; exact StCh.cong this (by simp [List.append_assoc])
                have hb := IH2.out (mid - a) (by omega) a s mid X U1 V1 ((U2 ++ V2) ++ Y) wr (by omega) (by have q := HQ.out; omega) (by have q := HQ.out; omega) (by have q := HQ.out; omega) (by have q := HQ.out; omega) (by have q := HQ.out; omega) (by have q := HQ.out; simp; omega) HU1.out HV1.out (by have := SA.out; exact StCh.cong this (by simp [List.append_assoc]))
                have HB : Hid (type_of% hb) := hb
                clear hb
                go_wp2_with fail
                refine HB.out.mono ?_
                rintro e2 w2 ⟨rfl, LL, S3, q1, q2⟩
                have hLl := (q2.length HO.out).symm
                have SB : Aside (SWK enc k w0 blk off (X ++ LL ++ (U2 ++ V2) ++ Y).toArray w2 ∧ SortedL (ltOf cf) LL ∧ Stab (ltOf cf) (U1 ++ V1) LL ∧ LL.length = U1.length + V1.length) := ⟨StCh.cong S3 (by simp [List.append_assoc]), q1, q2, by rw [hLl]; simp⟩
                clear S3 q1 q2 hLl HB SA
                obtain ⟨RR, hRR⟩ : ∃ RR, RR = U2 ++ V2 := ⟨_, rfl⟩
                have SC : Aside (SWK enc k w0 blk off (X ++ LL ++ RR ++ Y).toArray w2 ∧ SortedL (ltOf cf) RR ∧ Stab (ltOf cf) (U2 ++ V2) RR) := by
                  rw [hRR]
                  have hz : U2 = [] := List.eq_nil_of_length_eq_zero (by have q := HQ.out; omega)
                  refine ⟨SB.out.1, ?_, Stab.refl _⟩
                  rw [hz]; simpa using HV2.out
                clear hRR
                go_wp2
                all_goals
                  go_end0
                  have mf := merge_step HO.out U1 U2 V1 V2 LL RR (by rw [← HQ.out.1]; exact HSU.out) (by rw [← HQ.out.2.1]; exact HSV.out) HB1.out HB2.out SB.out.2.1 SC.out.2.1 SB.out.2.2.1 SC.out.2.2
                  exact ⟨rfl, LL ++ RR, by have := SC.out.1; exact StCh.cong this (by simp [List.append_assoc]), mf.1, by rw [HQ.out.1, HQ.out.2.1]; exact mf.2⟩
              · have _tk : True := trivial
                have c1 : ¬ ((s : Int) < (m : Int)) := by omega
                have c2 : ¬ ((m : Int) < (e : Int)) := by omega
                have c3 : (a : Int) < (s : Int) := by omega
                have c4 : ¬ ((s : Int) < (mid : Int)) := by omega
                have c5 : ¬ ((mid : Int) < (e : Int)) := by omega
                have c6 : (e : Int) < (b : Int) := by omega
                have SA : Aside (SWK enc k w0 blk off (X ++ (U1 ++ V1) ++ (U2 ++ V2) ++ Y).toArray wr) := by
                  have hz : U2 = [] := List.eq_nil_of_length_eq_zero (by have q := HQ.out; omega)
                  have := S1.out; rw [HL.out, HQ.out.1, HQ.out.2.1, hz] at this; rw [hz]; exact StCh.cong this (by simp [List.append_assoc])
                obtain ⟨LL, hLL⟩ : ∃ LL, LL = U1 ++ V1 := ⟨_, rfl⟩
                have SB : Aside (SWK enc k w0 blk off (X ++ LL ++ (U2 ++ V2) ++ Y).toArray wr ∧ SortedL (ltOf cf) LL ∧ Stab (ltOf cf) (U1 ++ V1) LL ∧ LL.length = U1.length + V1.length) := by
                  rw [hLL]
                  have hz : V1 = [] := List.eq_nil_of_length_eq_zero (by have q := HQ.out; omega)
                  refine ⟨SA.out, ?_, Stab.refl _, by simp⟩
                  rw [hz]; simpa using HU1.out
                clear hLL
                obtain ⟨RR, hRR⟩ : ∃ RR, RR = U2 ++ V2 := ⟨_, rfl⟩
                have SC : Aside (SWK enc k w0 blk off (X ++ LL ++ RR ++ Y).toArray wr ∧ SortedL (ltOf cf) RR ∧ Stab (ltOf cf) (U2 ++ V2) RR) := by
                  rw [hRR]
                  have hz : U2 = [] := List.eq_nil_of_length_eq_zero (by have q := HQ.out; omega)
                  refine ⟨SB.out.1, ?_, Stab.refl _⟩
                  rw [hz]; simpa using HV2.out
                clear hRR
                go_wp2
                all_goals
                  go_end0
                  have mf := merge_step HO.out U1 U2 V1 V2 LL RR (by rw [← HQ.out.1]; exact HSU.out) (by rw [← HQ.out.2.1]; exact HSV.out) HB1.out HB2.out SB.out.2.1 SC.out.2.1 SB.out.2.2.1 SC.out.2.2
                  exact ⟨rfl, LL ++ RR, by have := SC.out.1; exact StCh.cong this (by simp [List.append_assoc]), mf.1, by rw [HQ.out.1, HQ.out.2.1]; exact mf.2⟩
            · have _tk : True := trivial
              by_cases q2 : m < e
              · have _tk : True := trivial
                have c1 : ¬ ((s : Int) < (m : Int)) := by omega
                have c2 : (m : Int) < (e : Int) := by omega
                have c3 : (a : Int) < (s : Int) := by omega
                have c4 : (s : Int) < (mid : Int) := by omega
                have c5 : ¬ ((mid : Int) < (e : Int)) := by omega
                have c6 : ¬ ((e : Int) < (b : Int)) := by omega
                have SA : Aside (SWK enc k w0 blk off (X ++ (U1 ++ V1) ++ (U2 ++ V2) ++ Y).toArray wr) := by
                  have hz : U2 = [] := List.eq_nil_of_length_eq_zero (by have q := HQ.out; omega)
                  have := S1.out; rw [HL.out, HQ.out.1, HQ.out.2.1, hz] at this; rw [hz]; exact StCh.cong this (by simp [List.append_assoc])
                have hb := IH2.out (mid - a) (by omega) a s mid X U1 V1 ((U2 ++ V2) ++ Y) wr (by omega) (by have q := HQ.out; omega) (by have q := HQ.out; omega) (by have q := HQ.out; omega) (by have q := HQ.out; omega) (by have q := HQ.out; omega) (by have q := HQ.out; simp; omega) HU1.out HV1.out (by have := SA.out; exact StCh.cong this (by simp [List.append_assoc]))
                have HB : Hid (type_of% hb) := hb
                clear hb
                go_wp2_with fail
                refine HB.out.mono ?_
                rintro e2 w2 ⟨rfl, LL, S3, q1, q2⟩
                have hLl := (q2.length HO.out).symm
                have SB : Aside (SWK enc k w0 blk off (X ++ LL ++ (U2 ++ V2) ++ Y).toArray w2 ∧ SortedL (ltOf cf) LL ∧ Stab (ltOf cf) (U1 ++ V1) LL ∧ LL.length = U1.length + V1.length) := ⟨StCh.cong S3 (by simp [List.append_assoc]), q1, q2, by rw [hLl]; simp⟩
                clear S3 q1 q2 hLl HB SA
                obtain ⟨RR, hRR⟩ : ∃ RR, RR = U2 ++ V2 := ⟨_, rfl⟩
                have SC : Aside (SWK enc k w0 blk off (X ++ LL ++ RR ++ Y).toArray w2 ∧ SortedL (ltOf cf) RR ∧ Stab (ltOf cf) (U2 ++ V2) RR) := by
                  rw [hRR]
                  have hz : U2 = [] := List.eq_nil_of_length_eq_zero (by have q := HQ.out; omega)
                  refine ⟨SB.out.1, ?_, Stab.refl _⟩
                  rw [hz]; simpa using HV2.out
                clear hRR
                go_wp2
                all_goals
                  go_end0
                  have mf := merge_step HO.out U1 U2 V1 V2 LL RR (by rw [← HQ.out.1]; exact HSU.out) (by rw [← HQ.out.2.1]; exact HSV.out) HB1.out HB2.out SB.out.2.1 SC.out.2.1 SB.out.2.2.1 SC.out.2.2
                  exact ⟨rfl, LL ++ RR, by have := SC.out.1; exact StCh.cong this (by simp [List.append_assoc]), mf.1, by rw [HQ.out.1, HQ.out.2.1]; exact mf.2⟩
              · have _tk : True := trivial
                have c1 : ¬ ((s : Int) < (m : Int)) := by omega
                have c2 : ¬ ((m : Int) < (e : Int)) := by omega
                have c3 : (a : Int) < (s : Int) := by omega
                have c4 : ¬ ((s : Int) < (mid : Int)) := by omega
                have c5 : ¬ ((mid : Int) < (e : Int)) := by omega
                have c6 : ¬ ((e : Int) < (b : Int)) := by omega
                have SA : Aside (SWK enc k w0 blk off (X ++ (U1 ++ V1) ++ (U2 ++ V2) ++ Y).toArray wr) := by
                  have hz : U2 = [] := List.eq_nil_of_length_eq_zero (by have q := HQ.out; omega)
                  have := S1.out; rw [HL.out, HQ.out.1, HQ.out.2.1, hz] at this; rw [hz]; exact StCh.cong this (by simp [List.append_assoc])
                obtain ⟨LL, hLL⟩ : ∃ LL, LL = U1 ++ V1 := ⟨_, rfl⟩
                have SB : Aside (SWK enc k w0 blk off (X ++ LL ++ (U2 ++ V2) ++ Y).toArray wr ∧ SortedL (ltOf cf) LL ∧ Stab (ltOf cf) (U1 ++ V1) LL ∧ LL.length = U1.length + V1.length) := by
                  rw [hLL]
                  have hz : V1 = [] := List.eq_nil_of_length_eq_zero (by have q := HQ.out; omega)
                  refine ⟨SA.out, ?_, Stab.refl _, by simp⟩
                  rw [hz]; simpa using HU1.out
                clear hLL
                obtain ⟨RR, hRR⟩ : ∃ RR, RR = U2 ++ V2 := ⟨_, rfl⟩
                have SC : Aside (SWK enc k w0 blk off (X ++ LL ++ RR ++ Y).toArray wr ∧ SortedL (ltOf cf) RR ∧ Stab (ltOf cf) (U2 ++ V2) RR) := by
                  rw [hRR]
                  have hz : U2 = [] := List.eq_nil_of_length_eq_zero (by have q := HQ.out; omega)
                  refine ⟨SB.out.1, ?_, Stab.refl _⟩
                  rw [hz]; simpa using HV2.out
                clear hRR
                go_wp2
                all_goals
                  go_end0
                  have mf := merge_step HO.out U1 U2 V1 V2 LL RR (by rw [← HQ.out.1]; exact HSU.out) (by rw [← HQ.out.2.1]; exact HSV.out) HB1.out HB2.out SB.out.2.1 SC.out.2.1 SB.out.2.2.1 SC.out.2.2
                  exact ⟨rfl, LL ++ RR, by have := SC.out.1; exact StCh.cong this (by simp [List.append_assoc]), mf.1, by rw [HQ.out.1, HQ.out.2.1]; exact mf.2⟩
          · have _tk : True := trivial
            by_cases q6 : e < b
            · have _tk : True := trivial
              by_cases q2 : m < e
              · have _tk : True := trivial
                have c1 : ¬ ((s : Int) < (m : Int)) := by omega
                have c2 : (m : Int) < (e : Int) := by omega
                have c3 : ¬ ((a : Int) < (s : Int)) := by omega
                have c4 : (s : Int) < (mid : Int) := by omega
                have c5 : ¬ ((mid : Int) < (e : Int)) := by omega
                have c6 : (e : Int) < (b : Int) := by omega
                have SA : Aside (SWK enc k w0 blk off (X ++ (U1 ++ V1) ++ (U2 ++ V2) ++ Y).toArray wr) := by
                  have hz : U2 = [] := List.eq_nil_of_length_eq_zero (by have q := HQ.out; omega)
                  have := S1.out; rw [HL.out, HQ.out.1, HQ.out.2.1, hz] at this; rw [hz]; exact StCh.cong this (by simp [List.append_assoc])
                obtain ⟨LL, hLL⟩ : ∃ LL, LL = U1 ++ V1 := ⟨_, rfl⟩
                have SB : Aside (SWK enc k w0 blk off (X ++ LL ++ (U2 ++ V2) ++ Y).toArray wr ∧ SortedL (ltOf cf) LL ∧ Stab (ltOf cf) (U1 ++ V1) LL ∧ LL.length = U1.length + V1.length) := by
                  rw [hLL]
                  have hz : U1 = [] := List.eq_nil_of_length_eq_zero (by have q := HQ.out; omega)
                  refine ⟨SA.out, ?_, Stab.refl _, by simp⟩
                  rw [hz]; simpa using HV1.out
                clear hLL
                obtain ⟨RR, hRR⟩ : ∃ RR, RR = U2 ++ V2 := ⟨_, rfl⟩
                have SC : Aside (SWK enc k w0 blk off (X ++ LL ++ RR ++ Y).toArray wr ∧ SortedL (ltOf cf) RR ∧ Stab (ltOf cf) (U2 ++ V2) RR) := by
                  rw [hRR]
                  have hz : U2 = [] := List.eq_nil_of_length_eq_zero (by have q := HQ.out; omega)
                  refine ⟨SB.out.1, ?_, Stab.refl _⟩
                  rw [hz]; simpa using HV2.out
                clear hRR
                go_wp2
                all_goals
                  go_end0
                  have mf := merge_step HO.out U1 U2 V1 V2 LL RR (by rw [← HQ.out.1]; exact HSU.out) (by rw [← HQ.out.2.1]; exact HSV.out) HB1.out HB2.out SB.out.2.1 SC.out.2.1 SB.out.2.2.1 SC.out.2.2
                  exact ⟨rfl, LL ++ RR, by have := SC.out.1; exact StCh.cong this (by simp [List.append_assoc]), mf.1, by rw [HQ.out.1, HQ.out.2.1]; exact mf.2⟩
              · have _tk : True := trivial
                have c1 : ¬ ((s : Int) < (m : Int)) := by omega
                have c2 : ¬ ((m : Int) < (e : Int)) := by omega
                have c3 : ¬ ((a : Int) < (s : Int)) := by omega
                have c4 : ¬ ((s : Int) < (mid : Int)) := by omega
                have c5 : ¬ ((mid : Int) < (e : Int)) := by omega
                have c6 : (e : Int) < (b : Int) := by omega
                have SA : Aside (SWK enc k w0 blk off (X ++ (U1 ++ V1) ++ (U2 ++ V2) ++ Y).toArray wr) := by
                  have hz : U2 = [] := List.eq_nil_of_length_eq_zero (by have q := HQ.out; omega)
                  have := S1.out; rw [HL.out, HQ.out.1, HQ.out.2.1, hz] at this; rw [hz]; exact StCh.cong this (by simp [List.append_assoc])
                obtain ⟨LL, hLL⟩ : ∃ LL, LL = U1 ++ V1 := ⟨_, rfl⟩
                have SB : Aside (SWK enc k w0 blk off (X ++ LL ++ (U2 ++ V2) ++ Y).toArray wr ∧ SortedL (ltOf cf) LL ∧ Stab (ltOf cf) (U1 ++ V1) LL ∧ LL.length = U1.length + V1.length) := by
                  rw [hLL]
                  have hz : U1 = [] := List.eq_nil_of_length_eq_zero (by have q := HQ.out; omega)
                  refine ⟨SA.out, ?_, Stab.refl _, by simp⟩
                  rw [hz]; simpa using HV1.out
                clear hLL
                obtain ⟨RR, hRR⟩ : ∃ RR, RR = U2 ++ V2 := ⟨_, rfl⟩
                have SC : Aside (SWK enc k w0 blk off (X ++ LL ++ RR ++ Y).toArray wr ∧ SortedL (ltOf cf) RR ∧ Stab (ltOf cf) (U2 ++ V2) RR) := by
                  rw [hRR]
                  have hz : U2 = [] := List.eq_nil_of_length_eq_zero (by have q := HQ.out; omega)
                  refine ⟨SB.out.1, ?_, Stab.refl _⟩
                  rw [hz]; simpa using HV2.out
                clear hRR
                go_wp2
                all_goals
                  go_end0
                  have mf := merge_step HO.out U1 U2 V1 V2 LL RR (by rw [← HQ.out.1]; exact HSU.out) (by rw [← HQ.out.2.1]; exact HSV.out) HB1.out HB2.out SB.out.2.1 SC.out.2.1 SB.out.2.2.1 SC.out.2.2
                  exact ⟨rfl, LL ++ RR, by have := SC.out.1; exact StCh.cong this (by simp [List.append_assoc]), mf.1, by rw [HQ.out.1, HQ.out.2.1]; exact mf.2⟩
            · have _tk : True := trivial
              by_cases q2 : m < e
              · have _tk : True := trivial
                have c1 : ¬ ((s : Int) < (m : Int)) := by omega
                have c2 : (m : Int) < (e : Int) := by omega
                have c3 : ¬ ((a : Int) < (s : Int)) := by omega
                have c4 : (s : Int) < (mid : Int) := by omega
                have c5 : ¬ ((mid : Int) < (e : Int)) := by omega
                have c6 : ¬ ((e : Int) < (b : Int)) := by omega
                have SA : Aside (SWK enc k w0 blk off (X ++ (U1 ++ V1) ++ (U2 ++ V2) ++ Y).toArray wr) := by
                  have hz : U2 = [] := List.eq_nil_of_length_eq_zero (by have q := HQ.out; omega)
                  have := S1.out; rw [HL.out, HQ.out.1, HQ.out.2.1, hz] at this; rw [hz]; exact StCh.cong this (by simp [List.append_assoc])
                obtain ⟨LL, hLL⟩ : ∃ LL, LL = U1 ++ V1 := ⟨_, rfl⟩
                have SB : Aside (SWK enc k w0 blk off (X ++ LL ++ (U2 ++ V2) ++ Y).toArray wr ∧ SortedL (ltOf cf) LL ∧ Stab (ltOf cf) (U1 ++ V1) LL ∧ LL.length = U1.length + V1.length) := by
                  rw [hLL]
                  have hz : U1 = [] := List.eq_nil_of_length_eq_zero (by have q := HQ.out; omega)
                  refine ⟨SA.out, ?_, Stab.refl _, by simp⟩
                  rw [hz]; simpa using HV1.out
                clear hLL
                obtain ⟨RR, hRR⟩ : ∃ RR, RR = U2 ++ V2 := ⟨_, rfl⟩
                have SC : Aside (SWK enc k w0 blk off (X ++ LL ++ RR ++ Y).toArray wr ∧ SortedL (ltOf cf) RR ∧ Stab (ltOf cf) (U2 ++ V2) RR) := by
                  rw [hRR]
                  have hz : U2 = [] := List.eq_nil_of_length_eq_zero (by have q := HQ.out; omega)
                  refine ⟨SB.out.1, ?_, Stab.refl _⟩
                  rw [hz]; simpa using HV2.out
                clear hRR
                go_wp2
                all_goals
                  go_end0
                  have mf := merge_step HO.out U1 U2 V1 V2 LL RR (by rw [← HQ.out.1]; exact HSU.out) (by rw [← HQ.out.2.1]; exact HSV.out) HB1.out HB2.out SB.out.2.1 SC.out.2.1 SB.out.2.2.1 SC.out.2.2
                  exact ⟨rfl, LL ++ RR, by have := SC.out.1; exact StCh.cong this (by simp [List.append_assoc]), mf.1, by rw [HQ.out.1, HQ.out.2.1]; exact mf.2⟩
              · have _tk : True := trivial
                have c1 : ¬ ((s : Int) < (m : Int)) := by omega
                have c2 : ¬ ((m : Int) < (e : Int)) := by omega
                have c3 : ¬ ((a : Int) < (s : Int)) := by omega
                have c4 : ¬ ((s : Int) < (mid : Int)) := by omega
                have c5 : ¬ ((mid : Int) < (e : Int)) := by omega
                have c6 : ¬ ((e : Int) < (b : Int)) := by omega
                have SA : Aside (SWK enc k w0 blk off (X ++ (U1 ++ V1) ++ (U2 ++ V2) ++ Y).toArray wr) := by
                  have hz : U2 = [] := List.eq_nil_of_length_eq_zero (by have q := HQ.out; omega)
                  have := S1.out; rw [HL.out, HQ.out.1, HQ.out.2.1, hz] at this; rw [hz]; exact StCh.cong this (by simp [List.append_assoc])
                obtain ⟨LL, hLL⟩ : ∃ LL, LL = U1 ++ V1 := ⟨_, rfl⟩
                have SB : Aside (SWK enc k w0 blk off (X ++ LL ++ (U2 ++ V2) ++ Y).toArray wr ∧ SortedL (ltOf cf) LL ∧ Stab (ltOf cf) (U1 ++ V1) LL ∧ LL.length = U1.length + V1.length) := by
                  rw [hLL]
                  have hz : U1 = [] := List.eq_nil_of_length_eq_zero (by have q := HQ.out; omega)
                  refine ⟨SA.out, ?_, Stab.refl _, by simp⟩
                  rw [hz]; simpa using HV1.out
                clear hLL
                obtain ⟨RR, hRR⟩ : ∃ RR, RR = U2 ++ V2 := ⟨_, rfl⟩
                have SC : Aside (SWK enc k w0 blk off (X ++ LL ++ RR ++ Y).toArray wr ∧ SortedL (ltOf cf) RR ∧ Stab (ltOf cf) (U2 ++ V2) RR) := by
                  rw [hRR]
                  have hz : U2 = [] := List.eq_nil_of_length_eq_zero (by have q := HQ.out; omega)
                  refine ⟨SB.out.1, ?_, Stab.refl _⟩
                  rw [hz]; simpa using HV2.out
                clear hRR
                go_wp2
                all_goals
                  go_end0
                  have mf := merge_step HO.out U1 U2 V1 V2 LL RR (by rw [← HQ.out.1]; exact HSU.out) (by rw [← HQ.out.2.1]; exact HSV.out) HB1.out HB2.out SB.out.2.1 SC.out.2.1 SB.out.2.2.1 SC.out.2.2
                  exact ⟨rfl, LL ++ RR, by have := SC.out.1; exact StCh.cong this (by simp [List.append_assoc]), mf.1, by rw [HQ.out.1, HQ.out.2.1]; exact mf.2⟩
end Go.Proofs.Ytgjkidclpehnjaa

namespace Go.Proofs.Ytgjkidclpehnjaa
open Go.Shelf Go.RowKit Go.Lib Go.Sort
variable {P : Program} {ρ : Ren} {α : Type} [Inhabited α]

theorem StCh.ins {k : Nat} (LI : SlLaysF0.n20 P ρ) (aE : ∀ w, (isAgg (ρ.t 24)).run P w = .ok true w) (zE : ∀ w, (Go.sizeOf (ρ.t 24)).run P w = .ok k w) (enc : α → List Value) (cf : α → α → Int) (hO : SWO (ltOf cf)) (g : Nat) (cb : Array Value) (blk off cap sz : Nat) (d0 : Array α) (w0 : World) (R : RowK enc k w0 blk off d0)
    (eg : ∀ args w, (callFunc g args).run P w = .ok (.enter g args) w) (hcmp : CmpLays P g cb enc k cf blk off sz w0) (hs : d0.size = sz) (hbig : sz < 4611686018427387904)
    (a b : Nat) (dk : Array α) (w : World) (hdk : dk.size = sz) (S : SWK enc k w0 blk off dk w) (hab : a ≤ b) (hb : b ≤ sz) :
    Calls P (ρ.f 20) #[.slice (some ⟨blk, off, none⟩) sz cap, .int .i64 a, .int .i64 b, .func (.func g) #[] cb] w fun e w' => e = .returned (.tuple #[]) ∧ SWK enc k w0 blk off (insertionSort (ltOf cf) dk a b) w' := by
  subst hdk
  refine (AnyQ.insertionSortCmpFunc LI k aE zE enc R.hk R.h1 cf g cb blk off cap a b dk w eg ?_ (S.holds R.hblk R.hH hs.symm) (S.lt R.hblk) hab hb hbig).mono ?_
  · intro m os dk' hs' x y
    obtain ⟨n, os0, hw⟩ := S.on R.hblk m dk' os hs'
    rw [hw]; exact hcmp n os0 dk' hs' x y
  · rintro e w' ⟨rfl, n, os, rfl⟩
    exact ⟨rfl, S.on R.hblk n _ os (insertionSort_holds (lt := ltOf cf) hO dk a b hab hb).1.1⟩

/-- What insertionSortCmpFunc does, from world of the sort's to world of the sort's. -/
def StCh.Ins (P : Program) (enc : α → List Value) (k : Nat) (cf : α → α → Int) (g : Nat) (cb : Array Value) (blk off cap sz : Nat) (w0 : World) : Prop :=
  ∀ (a b : Nat) (dk : Array α) (w : World), dk.size = sz → SWK enc k w0 blk off dk w → a ≤ b → b ≤ sz →
    Calls P 52 #[.slice (some ⟨blk, off, none⟩) sz cap, .int .i64 a, .int .i64 b, .func (.func g) #[] cb] w fun e w' => e = .returned (.tuple #[]) ∧ SWK enc k w0 blk off (insertionSort (ltOf cf) dk a b) w'

set_option maxHeartbeats 4000000 in
set_option maxRecDepth 1000000 in
/-- stableCmpFunc: the row sorted, equals in their order. -/
theorem StCh.stable {k : Nat} (L : StChF P k) (enc : α → List Value) (cf : α → α → Int) (hO : SWO (ltOf cf)) (g : Nat) (cb : Array Value) (blk off cap sz : Nat) (d0 : Array α) (w0 : World) (R : RowK enc k w0 blk off d0)
    (eg : ∀ args w, (callFunc g args).run P w = .ok (.enter g args) w) (hcmp : CmpLays P g cb enc k cf blk off sz w0) (hs : d0.size = sz) (hbig : sz < 4611686018427387904) (hins : StCh.Ins P enc k cf g cb blk off cap sz w0)
    (l0 : List α) (w : World) (hl : l0.length = sz) (S : SWK enc k w0 blk off l0.toArray w) :
    Calls P 42 #[.slice (some ⟨blk, off, none⟩) sz cap, .int .i64 sz, .func (.func g) #[] cb] w fun e w' => e = .returned (.tuple #[]) ∧ ∃ W, SWK enc k w0 blk off W.toArray w' ∧ SortedL (ltOf cf) W ∧ Stab (ltOf cf) l0 W := by
  have mixed := L.mixed; have t3 := L.t3; have a3 := L.a3; have z3 := L.z3; have v3 := L.v3; have t4 := L.t4; have a4 := L.a4; have z4 := L.z4; have v4 := L.v4; have t22 := L.t22; have a22 := L.a22; have z22 := L.z22; have v22 := L.v22; have t25 := L.t25; have a25 := L.a25; have z25 := L.z25; have v25 := L.v25; have aE := L.aE; have zE := L.zE
  have e52 : ∀ args w, (callFunc 52 args).run P w = .ok (.enter 52 args) w := enters_of L.fins (by kernel_rfl) rfl
  have e53 : ∀ args w, (callFunc 53 args).run P w = .ok (.enter 53 args) w := enters_of L.fsym (by kernel_rfl) rfl
  have hm := StCh.symMerge L enc cf hO g cb blk off cap sz d0 w0 R eg hcmp hs hbig
  have HM : Hid (type_of% hm) := hm
  have HI : Hid (StCh.Ins P enc k cf g cb blk off cap sz w0) := hins
  have HO : Hid (SWO (ltOf cf)) := hO
  have HZ : Hid (l0.length = sz) := hl
  have S0 : Aside (SWK enc k w0 blk off l0.toArray w) := S
  clear hm hins hO hl S hcmp
  go_enter L.fstab, Try.ntmps42
  go_wp2
  go_loopg [7, 8] sz (fun gk s7 s8 wr => ∃ (a : Nat) (Pf T : List α), s7 = .int .i64 a ∧ s8 = .int .i64 ((a : Int) + 20) ∧ a ≤ sz ∧ sz - a ≤ gk ∧ Hid (∃ p, a = p * 20 ∧ Pf.length = a ∧ Pf.length + T.length = sz ∧ Blocks (ltOf cf) 20 Pf ∧ Stab (ltOf cf) l0 (Pf ++ T)) ∧ Aside (SWK enc k w0 blk off (Pf ++ T).toArray wr))
  case atStart => exact ⟨0, [], l0, rfl, by first | rfl | go_num | simp, Nat.zero_le _, Nat.le_refl _, ⟨0, rfl, rfl, by simpa using HZ.out, blocks_nil _, Stab.refl _⟩, S0⟩
  case round =>
    clear S0
    obtain ⟨a, Pf, T, rfl, rfl, ha, hg, HB, S1⟩ := hrel
    by_cases hlt : a + 20 ≤ sz
    · have hltz : (a : Int) + 20 ≤ (sz : Int) := by omega
      obtain ⟨U, T2, hT, hU⟩ : ∃ U T2, T = U ++ T2 ∧ U.length = 20 := ⟨T.take 20, T.drop 20, (List.take_append_drop _ _).symm, by obtain ⟨p, h1, h2, h3, _⟩ := HB.out; simp; omega⟩
      subst hT
      obtain ⟨W, hW, sW, tW⟩ := insertionSort_split HO.out Pf U T2 a (a + 20) (by obtain ⟨p, h1, h2, _⟩ := HB.out; omega) (by obtain ⟨p, h1, h2, _⟩ := HB.out; omega)
      have hc := HI.out a (a + 20) (Pf ++ U ++ T2).toArray wr (by obtain ⟨p, h1, h2, h3, _⟩ := HB.out; simp at h3 ⊢; omega) (StCh.cong S1.out (by simp)) (by omega) hlt
      rw [hW, show ((a + 20 : Nat) : Int) = (a : Int) + 20 from by omega] at hc
      have HC : Hid (type_of% hc) := hc
      have HB2 : Hid (∃ p, a + 20 = p * 20 ∧ (Pf ++ W).length = a + 20 ∧ (Pf ++ W).length + T2.length = sz ∧ Blocks (ltOf cf) 20 (Pf ++ W) ∧ Stab (ltOf cf) l0 ((Pf ++ W) ++ T2)) := by
        obtain ⟨p, h1, h2, h3, h4, h5⟩ := HB.out
        have hWl := tW.length HO.out
        refine ⟨p + 1, by omega, by simp; omega, by simp at h3 ⊢; omega, h4.snoc (p := p) (by omega) sW (by omega), h5.trans ?_⟩
        rw [List.append_assoc]
        exact (Stab.refl Pf).append (tW.append (Stab.refl T2))
      clear hc hW sW tW hU HB S1
      go_wp2_with (go_at_fn 52; refine HC.out.mono ?_; rintro e w' ⟨rfl, S2⟩; have S3 : Aside _ := S2; clear S2)
      go_roundg (sz - (a + 20))
      case measure => omega
      case rel => exact ⟨a + 20, Pf ++ W, T2, by first | rfl | go_num, by first | rfl | go_num, hlt, Nat.le_refl _, HB2, S3⟩
    · have hltz : ¬ ((a : Int) + 20 ≤ (sz : Int)) := by omega
      obtain ⟨W, hW, sW, tW⟩ := insertionSort_split HO.out Pf T [] a sz (by obtain ⟨p, h1, h2, _⟩ := HB.out; omega) (by obtain ⟨p, h1, h2, h3, _⟩ := HB.out; omega)
      have hc := HI.out a sz (Pf ++ T ++ []).toArray wr (by obtain ⟨p, h1, h2, h3, _⟩ := HB.out; simp; omega) (StCh.cong S1.out (by simp)) ha (Nat.le_refl _)
      rw [hW] at hc
      have HC : Hid (type_of% hc) := hc
      have HD : Hid ((Pf ++ W).length = sz ∧ Blocks (ltOf cf) 20 (Pf ++ W) ∧ Stab (ltOf cf) l0 (Pf ++ W)) := by
        obtain ⟨p, h1, h2, h3, h4, h5⟩ := HB.out
        have hWl := tW.length HO.out
        exact ⟨by simp; omega, h4.snoc (p := p) (by omega) sW (by omega), h5.trans ((Stab.refl Pf).append tW)⟩
      clear hc hW sW tW HB S1
      go_wp2_with (go_at_fn 52; refine HC.out.mono ?_; rintro e w' ⟨rfl, S2⟩; have S3 : Aside _ := S2; clear S2)
      clear HC
      go_loopg [6] sz (fun gk s6 wr => ∃ (bs : Nat) (l : List α), s6 = .int .i64 bs ∧ 1 ≤ bs ∧ sz - bs ≤ gk ∧ Hid (l.length = sz ∧ Blocks (ltOf cf) bs l ∧ Stab (ltOf cf) l0 l) ∧ Aside (SWK enc k w0 blk off l.toArray wr))
      case atStart => exact ⟨20, Pf ++ W, rfl, by omega, by omega, HD, StCh.cong S3.out (by simp)⟩
      case round =>
        clear S3 HD
        obtain ⟨bs, l, rfl, hbs, hg2, HL2, S4⟩ := hrel
        by_cases hlt2 : bs < sz
        · have hlt2z : (bs : Int) < (sz : Int) := by omega
          go_wp2
          go_loopg [7, 8] sz (fun gk s7 s8 wq => ∃ (a : Nat) (Pf T : List α), s7 = .int .i64 a ∧ s8 = .int .i64 ((a : Int) + 2 * (bs : Int)) ∧ a ≤ sz ∧ sz - a ≤ gk ∧ Hid (∃ p, a = p * (2 * bs) ∧ Pf.length = a ∧ Pf.length + T.length = sz ∧ Blocks (ltOf cf) (2 * bs) Pf ∧ Blocks (ltOf cf) bs T ∧ Stab (ltOf cf) l0 (Pf ++ T)) ∧ Aside (SWK enc k w0 blk off (Pf ++ T).toArray wq))
          case atStart => exact ⟨0, [], l, rfl, by first | rfl | go_num | simp, Nat.zero_le _, Nat.le_refl _, ⟨0, by simp, rfl, by simpa using HL2.out.1, blocks_nil _, HL2.out.2.1, HL2.out.2.2⟩, S4⟩
          case round =>
            clear S4 HL2
            obtain ⟨a2, Pf2, T, rfl, rfl, ha2, hg3, HB, S5⟩ := hrel
            by_cases hlt3 : a2 + 2 * bs ≤ sz
            · have hlt3z : (a2 : Int) + 2 * (bs : Int) ≤ (sz : Int) := by omega
              obtain ⟨U, V, T2, hT, hU, hV⟩ : ∃ U V T2, T = U ++ (V ++ T2) ∧ U.length = bs ∧ V.length = bs := by
                refine ⟨T.take bs, (T.drop bs).take bs, (T.drop bs).drop bs, by rw [List.take_append_drop, List.take_append_drop], ?_, ?_⟩ <;>
                · obtain ⟨p, h1, h2, h3, _⟩ := HB.out; simp; omega
              subst hT
              have sU : SortedL (ltOf cf) U := by obtain ⟨p, _, _, _, _, h, _⟩ := HB.out; exact h.head hU
              have bV : Blocks (ltOf cf) bs (V ++ T2) := by obtain ⟨p, _, _, _, _, h, _⟩ := HB.out; exact h.tail hU
              have sV := bV.head hV
              have bT := bV.tail hV
              have hc := HM.out (2 * bs) a2 (a2 + bs) (a2 + 2 * bs) Pf2 U V T2 wr (by omega) (by obtain ⟨p, h1, h2, _⟩ := HB.out; omega) (by obtain ⟨p, h1, h2, _⟩ := HB.out; omega) (by obtain ⟨p, h1, h2, _⟩ := HB.out; omega) (by omega) (by omega) (by obtain ⟨p, h1, h2, h3, _⟩ := HB.out; simp at h3; omega) sU sV (StCh.cong S5.out (by simp))
              rw [show ((a2 + bs : Nat) : Int) = (a2 : Int) + (bs : Int) from by omega, show ((a2 + 2 * bs : Nat) : Int) = (a2 : Int) + 2 * (bs : Int) from by omega] at hc
              have HC : Hid (type_of% hc) := hc
              have HB2 : Hid (∀ W, Stab (ltOf cf) (U ++ V) W → SortedL (ltOf cf) W → ∃ p, a2 + 2 * bs = p * (2 * bs) ∧ (Pf2 ++ W).length = a2 + 2 * bs ∧ (Pf2 ++ W).length + T2.length = sz ∧ Blocks (ltOf cf) (2 * bs) (Pf2 ++ W) ∧ Blocks (ltOf cf) bs T2 ∧ Stab (ltOf cf) l0 ((Pf2 ++ W) ++ T2)) := by
                intro W tW sW
                obtain ⟨p, h1, h2, h3, h4, h5, h6⟩ := HB.out
                have hWl := tW.length HO.out
                simp at hWl h3
                refine ⟨p + 1, by rw [Nat.add_mul, Nat.one_mul]; omega, by simp; omega, by simp; omega, h4.snoc (p := p) (by omega) sW (by omega), bT, h6.trans ?_⟩
                rw [← List.append_assoc U, List.append_assoc Pf2 W]
                exact (Stab.refl Pf2).append (tW.append (Stab.refl T2))
              clear hc sU bV sV bT HB S5 hU hV
              go_wp2_with (go_at_fn 53; refine HC.out.mono ?_; rintro e w' ⟨rfl, W, S6, sW, tW⟩; have S7 : Aside (SWK enc k w0 blk off ((Pf2 ++ W) ++ T2).toArray w') := S6; have HB3 := HB2.out W tW sW; have HB4 : Hid (type_of% HB3) := HB3; clear S6 sW tW HB3)
              go_roundg (sz - (a2 + 2 * bs))
              case measure => omega
              case rel => exact ⟨a2 + 2 * bs, Pf2 ++ W, T2, by first | rfl | go_num, by first | rfl | go_num, hlt3, Nat.le_refl _, HB4, S7⟩
            · have hlt3z : ¬ ((a2 : Int) + 2 * (bs : Int) ≤ (sz : Int)) := by omega
              by_cases hlt4 : a2 + bs < sz
              · have hlt4z : (a2 : Int) + (bs : Int) < (sz : Int) := by omega
                obtain ⟨U, V, hT, hU⟩ : ∃ U V, T = U ++ V ∧ U.length = bs := by
                  refine ⟨T.take bs, T.drop bs, (List.take_append_drop _ _).symm, ?_⟩
                  obtain ⟨p, h1, h2, h3, _⟩ := HB.out; simp; omega
                subst hT
                have hV : V.length = sz - (a2 + bs) := by obtain ⟨p, h1, h2, h3, _⟩ := HB.out; simp at h3; omega
                have sU : SortedL (ltOf cf) U := by obtain ⟨p, _, _, _, _, h, _⟩ := HB.out; exact h.head hU
                have sV : SortedL (ltOf cf) V := by obtain ⟨p, _, _, _, _, h, _⟩ := HB.out; exact (h.tail hU).whole (by omega)
                have hc := HM.out (2 * bs) a2 (a2 + bs) sz Pf2 U V [] wr (by omega) (by obtain ⟨p, h1, h2, _⟩ := HB.out; omega) (by obtain ⟨p, h1, h2, _⟩ := HB.out; omega) (by obtain ⟨p, h1, h2, _⟩ := HB.out; omega) (by omega) (by omega) (by obtain ⟨p, h1, h2, h3, _⟩ := HB.out; simp at h3 ⊢; omega) sU sV (StCh.cong S5.out (by simp))
                rw [show ((a2 + bs : Nat) : Int) = (a2 : Int) + (bs : Int) from by omega] at hc
                have HC : Hid (type_of% hc) := hc
                have HB2 : Hid (∀ W, Stab (ltOf cf) (U ++ V) W → SortedL (ltOf cf) W → (Pf2 ++ W).length = sz ∧ Blocks (ltOf cf) (2 * bs) (Pf2 ++ W) ∧ Stab (ltOf cf) l0 (Pf2 ++ W)) := by
                  intro W tW sW
                  obtain ⟨p, h1, h2, h3, h4, h5, h6⟩ := HB.out
                  have hWl := tW.length HO.out
                  simp at hWl h3
                  exact ⟨by simp; omega, h4.snoc (p := p) (by omega) sW (by omega), h6.trans ((Stab.refl Pf2).append tW)⟩
                clear hc sU sV HB S5 hU hV
                go_wp2_with (go_at_fn 53; refine HC.out.mono ?_; rintro e w' ⟨rfl, W, S6, sW, tW⟩; have S7 : Aside (SWK enc k w0 blk off (Pf2 ++ W).toArray w') := StCh.cong S6 (by simp); have HB3 := HB2.out W tW sW; have HB4 : Hid (type_of% HB3) := HB3; clear S6 sW tW HB3)
                go_roundg (sz - 2 * bs)
                case measure => omega
                case rel => exact ⟨2 * bs, Pf2 ++ W, by first | rfl | go_num, by omega, by omega, HB4, S7⟩
              · have hlt4z : ¬ ((a2 : Int) + (bs : Int) < (sz : Int)) := by omega
                have HB4 : Hid ((Pf2 ++ T).length = sz ∧ Blocks (ltOf cf) (2 * bs) (Pf2 ++ T) ∧ Stab (ltOf cf) l0 (Pf2 ++ T)) := by
                  obtain ⟨p, h1, h2, h3, h4, h5, h6⟩ := HB.out
                  exact ⟨by simp; omega, h4.snoc (p := p) (by omega) (h5.whole (by omega)) (by omega), h6⟩
                clear HB
                go_wp2
                go_roundg (sz - 2 * bs)
                case measure => omega
                case rel => exact ⟨2 * bs, Pf2 ++ T, by first | rfl | go_num, by omega, by omega, HB4, S5⟩
        · have hlt2z : ¬ ((bs : Int) < (sz : Int)) := by omega
          go_wp2
          go_end0
          exact ⟨rfl, l, S4.out, HL2.out.2.1.whole (by have := HL2.out.1; omega), HL2.out.2.2⟩

set_option maxHeartbeats 1000000 in
/-- slices.SortStableFunc: the row sorted, equals in their order. -/
theorem StCh.sortStable {k : Nat} (L : StChF P k) (enc : α → List Value) (cf : α → α → Int) (hO : SWO (ltOf cf)) (g : Nat) (cb : Array Value) (blk off cap sz : Nat) (d0 : Array α) (w0 : World) (R : RowK enc k w0 blk off d0)
    (eg : ∀ args w, (callFunc g args).run P w = .ok (.enter g args) w) (hcmp : CmpLays P g cb enc k cf blk off sz w0) (hs : d0.size = sz) (hbig : sz < 4611686018427387904) (hins : StCh.Ins P enc k cf g cb blk off cap sz w0)
    (l0 : List α) (w : World) (hl : l0.length = sz) (S : SWK enc k w0 blk off l0.toArray w) :
    Calls P 27 #[.slice (some ⟨blk, off, none⟩) sz cap, .func (.func g) #[] cb] w fun e w' => e = .returned (.tuple #[]) ∧ ∃ W, SWK enc k w0 blk off W.toArray w' ∧ SortedL (ltOf cf) W ∧ Stab (ltOf cf) l0 W := by
  have hm := StCh.stable L enc cf hO g cb blk off cap sz d0 w0 R eg hcmp hs hbig hins l0 w hl S
  have mixed := L.mixed; have t3 := L.t3; have a3 := L.a3; have z3 := L.z3; have v3 := L.v3; have t4 := L.t4; have a4 := L.a4; have z4 := L.z4; have v4 := L.v4; have t22 := L.t22; have a22 := L.a22; have z22 := L.z22; have v22 := L.v22; have t25 := L.t25; have a25 := L.a25; have z25 := L.z25; have v25 := L.v25; have aE := L.aE; have zE := L.zE
  have e42 : ∀ args w, (callFunc 42 args).run P w = .ok (.enter 42 args) w := enters_of L.fstab (by kernel_rfl) rfl
  have HM : Hid (type_of% hm) := hm
  clear hm hins hO hl S hcmp
  go_enter L.fsort, Try.ntmps27
  go_wp2_with (go_at_fn 42; refine HM.out.mono ?_; rintro e w' ⟨rfl, W, S6, sW, tW⟩)
  go_end0
  exact ⟨rfl, W, S6, sW, tW⟩

set_option maxHeartbeats 1000000 in
/-- The empty row. -/
theorem StCh.sortStable_none {k : Nat} (L : StChF P k) (g cap : Nat) (cb : Array Value) (w : World) :
    Calls P 27 #[.slice none 0 cap, .func (.func g) #[] cb] w fun e w' => e = .returned (.tuple #[]) ∧ w' = w := by
  have h1 : Calls P 52 #[.slice none 0 cap, .int .i64 0, .int .i64 0, .func (.func g) #[] cb] w fun e w' => e = .returned (.tuple #[]) ∧ w' = w := by
    have mixed := L.mixed; have t3 := L.t3; have a3 := L.a3; have z3 := L.z3; have v3 := L.v3; have t4 := L.t4; have a4 := L.a4; have z4 := L.z4; have v4 := L.v4; have t22 := L.t22; have a22 := L.a22; have z22 := L.z22; have v22 := L.v22; have t25 := L.t25; have a25 := L.a25; have z25 := L.z25; have v25 := L.v25; have aE := L.aE; have zE := L.zE
    go_enter L.fins, Try.ntmps52
    go_wp2
    go_loopg [8] 0 (fun _ s8 wr => s8 = .int .i64 1 ∧ wr = w)
    case atStart => exact ⟨by first | rfl | go_num, rfl⟩
    case round =>
      obtain ⟨rfl, rfl⟩ := hrel
      go_wp2
      go_end0
      exact ⟨rfl, rfl⟩
  have h2 : Calls P 42 #[.slice none 0 cap, .int .i64 0, .func (.func g) #[] cb] w fun e w' => e = .returned (.tuple #[]) ∧ w' = w := by
    have mixed := L.mixed; have t3 := L.t3; have a3 := L.a3; have z3 := L.z3; have v3 := L.v3; have t4 := L.t4; have a4 := L.a4; have z4 := L.z4; have v4 := L.v4; have t22 := L.t22; have a22 := L.a22; have z22 := L.z22; have v22 := L.v22; have t25 := L.t25; have a25 := L.a25; have z25 := L.z25; have v25 := L.v25; have aE := L.aE; have zE := L.zE
    have e52 : ∀ args w, (callFunc 52 args).run P w = .ok (.enter 52 args) w := enters_of L.fins (by kernel_rfl) rfl
    go_enter L.fstab, Try.ntmps42
    go_wp2
    go_loopg [7, 8] 0 (fun _ s7 s8 wr => s7 = .int .i64 0 ∧ s8 = .int .i64 20 ∧ wr = w)
    case atStart => exact ⟨by first | rfl | go_num, by first | rfl | go_num, rfl⟩
    case round =>
      obtain ⟨rfl, rfl, rfl⟩ := hrel
      go_wp2_with (go_at_fn 52; refine h1.mono ?_; rintro e wz ⟨rfl, rfl⟩)
      go_loopg [6] 0 (fun _ s6 wr => s6 = .int .i64 20 ∧ wr = wz)
      case atStart => exact ⟨by first | rfl | go_num, rfl⟩
      case round =>
        obtain ⟨rfl, rfl⟩ := hrel
        go_wp2
        go_end0
        exact ⟨rfl, rfl⟩
  have mixed := L.mixed; have t3 := L.t3; have a3 := L.a3; have z3 := L.z3; have v3 := L.v3; have t4 := L.t4; have a4 := L.a4; have z4 := L.z4; have v4 := L.v4; have t22 := L.t22; have a22 := L.a22; have z22 := L.z22; have v22 := L.v22; have t25 := L.t25; have a25 := L.a25; have z25 := L.z25; have v25 := L.v25; have aE := L.aE; have zE := L.zE
  have e42 : ∀ args w, (callFunc 42 args).run P w = .ok (.enter 42 args) w := enters_of L.fstab (by kernel_rfl) rfl
  go_enter L.fsort, Try.ntmps27
  go_wp2_with (go_at_fn 42; refine h2.mono ?_; rintro e w' ⟨rfl, rfl⟩)
  go_end0
  exact ⟨rfl, rfl⟩
end Go.Proofs.Ytgjkidclpehnjaa

namespace Go.Proofs.Ytgjkidclpehnjaa.Pr
open Go.Shelf Go.RowKit Go.Lib Go.Sort Go.Proofs.Ytgjkidclpehnjaa

structure CpTF (P : Program) (k : Nat) : Prop where
  mixed : P.follows .mixedOrders = true
  t3 : P.underlying 3 = some (TypeDesc.int IntKind.i64)
  a3 : ∀ w, (isAgg 3).run P w = .ok false w
  z3 : ∀ w, (Go.sizeOf 3).run P w = .ok 1 w
  v3 : ∀ w, (zeroValue 3).run P w = .ok (Value.int IntKind.i64 0) w
  t4 : P.underlying 4 = some (TypeDesc.bool)
  a4 : ∀ w, (isAgg 4).run P w = .ok false w
  z4 : ∀ w, (Go.sizeOf 4).run P w = .ok 1 w
  v4 : ∀ w, (zeroValue 4).run P w = .ok (Value.bool false) w
  t22 : P.underlying 34 = some (TypeDesc.slice 25)
  a22 : ∀ w, (isAgg 34).run P w = .ok false w
  z22 : ∀ w, (Go.sizeOf 34).run P w = .ok 1 w
  v22 : ∀ w, (zeroValue 34).run P w = .ok (Value.slice none 0 0) w
  aE : ∀ w, (isAgg 25).run P w = .ok true w
  zE : ∀ w, (Go.sizeOf 25).run P w = .ok k w
  f : P.funcs[37]? = some Try.f37

theorem CpTF.here : CpTF Try.prog 3 :=
  ⟨by kernel_rfl, Try.underlying3, Try.isAgg3, Try.sizeOf3, Try.zeroValue3, Try.underlying4, Try.isAgg4, Try.sizeOf4, Try.zeroValue4, Try.underlying34, Try.isAgg34, Try.sizeOf34, Try.zeroValue34, Try.isAgg25, Try.sizeOf25, Try.func37⟩

variable {P : Program} {α : Type} [Inhabited α] [DecidableEq α]

set_option maxHeartbeats 4000000 in
set_option maxRecDepth 1000000 in
theorem CpT.compact {k : Nat} (L : CpTF P k) (enc : α → List Value) (z : α) (heq : EqlAt P 25 (fun x => .agg (enc x).toArray) (fun x y => decide (x = y))) (hne : ∀ (x y : α) (w : World), Sem.run P (binOp .neq 25 (.agg (enc x).toArray) (.agg (enc y).toArray)) w = .ok (.bool (!decide (x = y))) w)
    (hz : ∀ w, (zeroValue 25).run P w = .ok (.agg (enc z).toArray) w) (blk off cap n : Nat) (D : List α) (d0 : Array α) (w0 w : World) (R : RowK enc k w0 blk off d0) (hk0 : 0 < k) (S : SWK enc k w0 blk off D.toArray w) (hs : d0.size = n) (hn : D.length = n) (hcap : n ≤ cap) (hbig : n < 4611686018427387904) :
    Calls P 37 #[.slice (some ⟨blk, off, none⟩) n cap] w fun e w' => ∃ Z, e = .returned (.slice (some ⟨blk, off, none⟩) (compactL D).length cap) ∧ SWK enc k w0 blk off (compactL D ++ Z).toArray w' ∧ (compactL D).length + Z.length = n := by
  have mixed := L.mixed; have t3 := L.t3; have a3 := L.a3; have z3 := L.z3; have v3 := L.v3; have t4 := L.t4; have a4 := L.a4; have z4 := L.z4; have v4 := L.v4; have t22 := L.t22; have a22 := L.a22; have z22 := L.z22; have v22 := L.v22; have aE := L.aE; have zE := L.zE
  have HQ : Hid (∀ (x y : α) (w : World), Sem.run P (binOp .eql 25 (.agg (enc x).toArray) (.agg (enc y).toArray)) w = .ok (.bool (decide (x = y))) w) := heq.1
  have HN : Hid (∀ (x y : α) (w : World), Sem.run P (binOp .neq 25 (.agg (enc x).toArray) (.agg (enc y).toArray)) w = .ok (.bool (!decide (x = y))) w) := hne
  have HG : Hid (∀ (op : BinOp) (a b : Operand) (x y : α) (w : World), Sem.run P (eqGuard op 25 a b (.agg (enc x).toArray) (.agg (enc y).toArray)) w = .ok () w) := heq.2
  have HZ : Hid (∀ w, (zeroValue 25).run P w = .ok (.agg (enc z).toArray) w) := hz
  have HE : Hid (d0.size = n ∧ D.length = n) := ⟨hs, hn⟩
  have S0 : Aside (SWK enc k w0 blk off D.toArray w) := S
  clear heq hne hz S hs hn
  by_cases h2 : n < 2
  · have h2z : (n : Int) < 2 := by omega
    have hc : Hid (compactL D = D) := by
      have := HE.out.2
      match D, this with
      | [], _ => rfl
      | [x], _ => rfl
      | x :: y :: D, h => exfalso; simp at h; omega
    go_enter L.f, Try.ntmps37
    go_wp2
    go_ret
    exact ⟨[], by rw [hc.out, HE.out.2]; rfl, by rw [hc.out, List.append_nil]; exact S0.out, by rw [hc.out, HE.out.2]; rfl⟩
  · have h2z : ¬ (n : Int) < 2 := by omega
    go_enter L.f, Try.ntmps37
    go_wp2
    go_loopg [3] n (fun gk s3 wr => ∃ (j : Nat) (A B : List α) (x : α), s3 = .int .i64 j ∧ 1 ≤ j ∧ j ≤ n ∧ n - j ≤ gk ∧ Hid (D = A ++ x :: B ∧ A.length + 1 = j ∧ compactL D = (A ++ [x]) ++ compactFrom x B) ∧ Aside (SWK enc k w0 blk off D.toArray wr))
    case atStart =>
      have h := HE.out.2
      match D, h, S0 with
      | [], h, S0 => exfalso; simp at h; omega
      | x :: D, h, S0 => exact ⟨1, [], D, x, rfl, Nat.le_refl _, by omega, by omega, ⟨rfl, rfl, rfl⟩, S0⟩
    case round =>
      clear S0
      obtain ⟨j, A, B, x, rfl, hj1, hjn, hg, HD, S1⟩ := hrel
      have hds : Hid (D.toArray.size = d0.size) := by have h := HE.out; show _ = _; simp; omega
      by_cases hlt : j < n
      · have hltz : (j : Int) < (n : Int) := by omega
        have hcapz : (n : Int) ≤ (cap : Int) := by omega
        obtain ⟨i, rfl⟩ : ∃ i, j = i + 1 := ⟨j - 1, by omega⟩
        have hi1 : (i : Int) + 1 < (n : Int) := by omega
        have hi0 : (i : Int) < (n : Int) := by omega
        have p0 : (0 : Int) ≤ (i : Int) + 1 := by omega
        have e0 : ((i : Int) + 1).toNat = i + 1 := by omega
        have wp0 : IntKind.i64.wrap (i : Int) = (i : Int) := by rw [IntKind.wrap_i64]; omega
        obtain ⟨y, B2, hB⟩ : ∃ y B2, B = y :: B2 := by
          cases B with
          | nil => exfalso; have h := HD.out; have h3 := HE.out.2; rw [h.1] at h3; simp at h3; omega
          | cons y B2 => exact ⟨y, B2, rfl⟩
        subst hB
        have hsz : D.toArray.size = n := by have h := HE.out.2; simpa using h
        have l1 := S1.out.ld R hds.out P (i + 1) (by omega)
        have l2 := S1.out.ld R hds.out P i (by omega)
        have e1 : D.toArray[i + 1]! = y := by
          have h := HD.out
          have h3 := get_mid (A ++ [x]) y B2
          rw [show (A ++ [x]) ++ y :: B2 = D from by rw [h.1]; simp, show (A ++ [x]).length = i + 1 from by simp; omega] at h3
          exact h3
        have e2 : D.toArray[i]! = x := by
          have h := HD.out
          have h3 := get_mid A x (y :: B2)
          rw [← h.1, show A.length = i from by omega] at h3
          exact h3
        rw [e1] at l1
        rw [e2] at l2
        have hq := HQ.out y x
        have hg' := fun op a b => HG.out op a b y x
        clear hsz e1 e2
        have n1 : (enc y).length = k := R.hk _
        have n2 : (enc x).length = k := R.hk _
        generalize enc y = cI at l1 hq hg' n1
        generalize enc x = cJ at l2 hq hg' n2
        by_cases hyx : y = x
        · have hd : decide (y = x) = true := decide_eq_true hyx
          rw [hd] at hq
          go_wp2_with fail
          go_quiet_grown (fail)
          have S2 : Aside (SWK enc k w0 blk off D.toArray (grow (wr.drewN nq) osq)) := S1.out.grown nq osq
          clear l1 l2 hq hg' n1 n2 S1 hd
          generalize grow (wr.drewN nq) osq = wv at S2 ⊢
          clear nq osq
          go_wp2
          go_loopg [3, 5] n (fun gk s3 s5 wr => ∃ (kk k2 : Nat) (C M0 Rr : List α) (p : α), s3 = .int .i64 kk ∧ s5 = .int .i64 k2 ∧ 1 ≤ k2 ∧ i + 1 + k2 ≤ n ∧ n - (i + 1 + k2) ≤ gk ∧ kk < i + 1 + k2 ∧ Hid (C.length = kk ∧ C.length + M0.length = i + k2 ∧ C.length + M0.length + 1 + Rr.length = n ∧ compactL D = C ++ compactFrom p Rr) ∧ Aside (SWK enc k w0 blk off ((C ++ M0) ++ p :: Rr).toArray wr))
          case atStart =>
            have h := HD.out
            refine ⟨i + 1, 1, A ++ [x], [], B2, x, by first | rfl | go_num, by first | rfl | go_num, Nat.le_refl _, by omega, by omega, by omega, ⟨by simp; omega, by simp; omega, ?_, ?_⟩, ?_⟩
            · have h3 := HE.out.2; rw [h.1] at h3; simp at h3 ⊢; omega
            · rw [h.2.2, hyx, compactFrom, if_pos rfl]
            · have e : (A ++ [x] ++ []) ++ x :: B2 = D := by rw [h.1, hyx]; simp
              rw [e]; exact S2
          case round =>
            clear S2
            obtain ⟨kk, k2, C, M0, Rr, p, rfl, rfl, hk1, hkn, hg2, hkk, HI, S3⟩ := hrel
            have hds2 : Hid (((C ++ M0) ++ p :: Rr).toArray.size = d0.size) := by have h := HI.out; have h3 := HE.out; show _ = _; simp; omega
            have hkkz : (kk : Int) < (n : Int) := by omega
            by_cases hlt2 : i + 1 + k2 < n
            · obtain ⟨q, rfl⟩ : ∃ q, k2 = q + 1 := ⟨k2 - 1, by omega⟩
              obtain ⟨r, R2, hR⟩ : ∃ r R2, Rr = r :: R2 := by
                cases Rr with
                | nil => exfalso; have h := HI.out; simp at h; omega
                | cons r R2 => exact ⟨r, R2, rfl⟩
              subst hR
              have p1 : (0 : Int) ≤ (q : Int) + 1 := by omega
              have e1' : ((q : Int) + 1).toNat = q + 1 := by omega
              have wq0 : IntKind.i64.wrap (q : Int) = (q : Int) := by rw [IntKind.wrap_i64]; omega
              have hlt2z : (q : Int) + 1 < ((n - (i + 1) : Nat) : Int) := by omega
              have hlt2z' : (q : Int) + 1 < (n : Int) - ((i : Int) + 1) := by omega
              have hqz : (q : Int) < (n : Int) - ((i : Int) + 1) := by omega
              have hqz' : (q : Int) < ((n - (i + 1) : Nat) : Int) := by omega
              have l1 := S3.out.ld R hds2.out P (i + 1 + (q + 1)) (by have h := HI.out; simp; omega)
              have l2 := S3.out.ld R hds2.out P (i + 1 + q) (by have h := HI.out; simp; omega)
              have l0 := S3.out.load R hds2.out P (i + 1 + (q + 1)) (by have h := HI.out; simp; omega)
              have e1 : ((C ++ M0) ++ p :: r :: R2).toArray[i + 1 + (q + 1)]! = r := by
                have h := HI.out
                have h3 := get_mid (C ++ M0 ++ [p]) r R2
                rw [show (C ++ M0 ++ [p]) ++ r :: R2 = (C ++ M0) ++ p :: r :: R2 from by simp, show (C ++ M0 ++ [p]).length = i + 1 + (q + 1) from by simp; omega] at h3
                exact h3
              have e2 : ((C ++ M0) ++ p :: r :: R2).toArray[i + 1 + q]! = p := by
                have h := HI.out
                have h3 := get_mid (C ++ M0) p (r :: R2)
                rw [show (C ++ M0).length = i + 1 + q from by simp; omega] at h3
                exact h3
              rw [e1, Nat.add_mul (i + 1) (q + 1) k, ← Nat.add_assoc off] at l1
              rw [e2, Nat.add_mul (i + 1) q k, ← Nat.add_assoc off] at l2
              rw [e1, Nat.add_mul (i + 1) (q + 1) k, ← Nat.add_assoc off] at l0
              have hq := HN.out r p
              have hg' := fun op a b => HG.out op a b r p
              clear e1 e2
              have n1 : (enc r).length = k := R.hk _
              have n2 : (enc p).length = k := R.hk _
              by_cases hrp : r = p
              · have hd : (!decide (r = p)) = false := by simp [hrp]
                rw [hd] at hq
                generalize enc r = cI at l1 l0 hq hg' n1
                generalize enc p = cJ at l2 hq hg' n2
                go_wp2_with fail
                go_quiet_grown (fail)
                have S4 : Aside (SWK enc k w0 blk off ((C ++ (M0 ++ [p])) ++ r :: R2).toArray (grow (wr.drewN nq) osq)) := SWK_cong (S3.out.grown nq osq) (by simp)
                clear l1 l2 l0 hq hg' n1 n2 S3 hd
                generalize grow (wr.drewN nq) osq = wv at S4 ⊢
                clear nq osq
                go_wp2
                go_roundg (n - (i + 1 + (q + 1 + 1)))
                case measure => omega
                case rel =>
                  have h := HI.out
                  exact ⟨kk, q + 1 + 1, C, M0 ++ [p], R2, r, rfl, by first | rfl | go_num, by omega, by omega, Nat.le_refl _, by omega, ⟨h.1, by simp; omega, by simp at h ⊢; omega, by rw [h.2.2.2, compactFrom, if_pos hrp, hrp]⟩, S4⟩
              · have hd : (!decide (r = p)) = true := by simp [hrp]
                rw [hd] at hq
                obtain ⟨m, M1, hM⟩ : ∃ m M1, M0 ++ [p] = m :: M1 := by
                  cases M0 with
                  | nil => exact ⟨p, [], rfl⟩
                  | cons m M => exact ⟨m, M ++ [p], rfl⟩
                have HM : Hid (M0 ++ [p] = m :: M1) := hM
                clear hM
                have S4 : Aside (∀ nq osq, SWK enc k w0 blk off (C ++ [m] ++ (M1 ++ r :: R2)).toArray (grow (wr.drewN nq) osq) ∧ storeCells ⟨blk, off + kk * k, none⟩ (enc r) 0 = storeCells ⟨blk, off + kk * k, none⟩ (enc r) 0) := fun nq osq => ⟨SWK_cong (S3.out.grown nq osq) (by
                  have := congrArg (fun l => C ++ l ++ (r :: R2)) HM.out
                  simpa using this), rfl⟩
                have s1 : ∀ nq osq, Sem.run P (storeCells ⟨blk, off + kk * k, none⟩ (enc r) 0) (grow (wr.drewN nq) osq) = .ok () ((grow (wr.drewN nq) osq).setCells blk (off + kk * k) (enc r)) := fun nq osq =>
                  stores_of_holds P ((S3.out.grown nq osq).holds R.hblk R.hH hds2.out) (kk * k) _ (by rw [R.hk, size_flatK]; exact rowK_bnd _ k kk (by have h := HI.out; simp; omega)) (R.h1 _)
                have l3 : ∀ nq osq, Sem.run P (loadCellsFrom ⟨blk, off + (i + 1) * k + (q + 1) * k, none⟩ 0 k #[]) (grow (wr.drewN nq) osq) = .ok (enc r).toArray (grow (wr.drewN nq) osq) := l1
                have S5 : Aside (∀ nq osq, SWK enc k w0 blk off (((C ++ [r]) ++ M1) ++ r :: R2).toArray ((grow (wr.drewN nq) osq).setCells blk (off + kk * k) (enc r))) := fun nq osq => by
                  have h := HI.out
                  have h3 := SWK_put (Y := [r]) R.hk R.hblk (S4.out nq osq).1 rfl
                  rw [h.1] at h3
                  exact SWK_cong (by simpa using h3) (by simp)
                clear S4
                generalize enc r = cI at l1 l3 s1 S5 hq hg' n1 l0
                generalize enc p = cJ at l2 hq hg' n2
                clear l0
                go_wp2_with fail
                go_quiet_grown (fail)
                replace l3 := l3 nq osq
                replace s1 := s1 nq osq
                have S6 : Aside (SWK enc k w0 blk off (((C ++ [r]) ++ M1) ++ r :: R2).toArray ((grow (wr.drewN nq) osq).setCells blk (off + kk * k) cI)) := S5.out nq osq
                clear l1 l2 hq hg' S3 hd S5
                generalize grow (wr.drewN nq) osq = wv at S6 l3 s1 ⊢
                clear nq osq
                go_wp2
                go_roundg (n - (i + 1 + (q + 1 + 1)))
                case measure => omega
                case rel =>
                  have h := HI.out
                  have hm := congrArg List.length HM.out
                  simp at hm
                  exact ⟨kk + 1, q + 1 + 1, C ++ [r], M1, R2, r, by first | rfl | go_num, by first | rfl | go_num, by omega, by omega, Nat.le_refl _, by omega, ⟨by simp; omega, by simp; omega, by simp at h ⊢; omega, by rw [h.2.2.2, compactFrom, if_neg hrp]; simp⟩, S6⟩
            · have hlt2z : ¬ (k2 : Int) < ((n - (i + 1) : Nat) : Int) := by omega
              have hlt2z' : ¬ (k2 : Int) < (n : Int) - ((i : Int) + 1) := by omega
              have hRn : Rr = [] := List.eq_nil_of_length_eq_zero (by have h := HI.out; omega)
              subst hRn
              have hlen : (M0 ++ [p]).length = n - kk := by have h := HI.out; simp at h ⊢; omega
              have hcl : ∀ ty, (Builtin.clear_ #[34] ty #[.slice (some ⟨blk, off + kk * k, none⟩) (n - kk) (cap - kk)]).run P wr = .ok (.tuple #[]) (wr.setCells blk (off + kk * k) ((List.replicate (n - kk) z).flatMap enc)) := fun ty => by
                have hH := S3.out.holds R.hblk R.hH hds2.out
                have hsz : (flatK enc k ((C ++ M0) ++ [p]).toArray).size = n * k := by
                  have h := HI.out
                  rw [size_flatK]; congr 1; simp at h ⊢; omega
                have hb : ∀ t, t < (n - kk) * k → kk * k + t < (flatK enc k ((C ++ M0) ++ [p]).toArray).size := fun t ht => by
                  rw [hsz]
                  have h4 : kk * k + (n - kk) * k = n * k := by rw [← Nat.add_mul]; congr 1; omega
                  omega
                have h3 := run_clear_structs (P := P) wr 34 25 ty _ t22 HZ.out (by simpa [Value.cells] using R.h1 z) blk (off + kk * k) (n - kk) (cap - kk) (by omega)
                  (fun t ht => by rw [Nat.add_assoc, (hH _ (hb t (by simpa [Value.cells, R.hk] using ht))).1]; rfl) (fun t ht => by rw [Nat.add_assoc]; exact (hH _ (hb t (by simpa [Value.cells, R.hk] using ht))).2)
                rw [h3]
                congr 2
                rw [List.flatMap_def, List.map_replicate]; simp [Value.cells]
              have S4 : Aside (SWK enc k w0 blk off (C ++ List.replicate (n - kk) z).toArray (wr.setCells blk (off + kk * k) ((List.replicate (n - kk) z).flatMap enc))) := by
                have h := HI.out
                have h3 := SWK_put (A := C) (M := M0 ++ [p]) (B := []) (Y := List.replicate (n - kk) z) R.hk R.hblk (SWK_cong S3.out (by simp)) (by rw [hlen]; simp)
                rw [h.1] at h3
                exact SWK_cong h3 (by simp)
              clear S3 hlen
              generalize (List.replicate (n - kk) z).flatMap enc = zs at hcl S4
              go_wp2
              go_ret
              have h := HI.out
              have hc : compactL D = C := by rw [h.2.2.2, compactFrom, List.append_nil]
              exact ⟨by rw [hc, h.1]; rfl, List.replicate (n - kk) z, by rw [hc]; exact S4.out, by rw [hc]; simp; omega⟩
        · have hd : decide (y = x) = false := decide_eq_false hyx
          rw [hd] at hq
          go_wp2_with fail
          go_quiet_grown (fail)
          have S2 : Aside (SWK enc k w0 blk off D.toArray (grow (wr.drewN nq) osq)) := S1.out.grown nq osq
          clear l1 l2 hq hg' n1 n2 S1 hd
          generalize grow (wr.drewN nq) osq = wv at S2 ⊢
          clear nq osq
          go_wp2
          go_roundg (n - (i + 1 + 1))
          case measure => omega
          case rel =>
            have h := HD.out
            exact ⟨i + 1 + 1, A ++ [x], B2, y, by first | rfl | go_num, by omega, by omega, Nat.le_refl _, ⟨by rw [h.1]; simp, by simp; omega, by rw [h.2.2, compactFrom, if_neg hyx]; simp⟩, S2⟩
      · have hltz : ¬ (j : Int) < (n : Int) := by omega
        have hB : B = [] := List.eq_nil_of_length_eq_zero (by have h := HD.out; have h3 := HE.out.2; rw [h.1] at h3; simp at h3; omega)
        subst hB
        have hc : Hid (compactL D = D) := by have h := HD.out; show _ = _; rw [h.2.2, compactFrom, List.append_nil, h.1]
        go_wp2
        go_ret
        exact ⟨by rw [hc.out, HE.out.2]; rfl, [], by rw [hc.out, List.append_nil]; exact S1.out, by rw [hc.out, HE.out.2]; rfl⟩

set_option maxHeartbeats 1000000 in
theorem CpT.compact_none {k : Nat} (L : CpTF P k) (cap : Nat) (w : World) : Calls P 37 #[.slice none 0 cap] w fun e w' => e = .returned (.slice none 0 cap) ∧ w' = w := by
  have mixed := L.mixed; have t3 := L.t3; have a3 := L.a3; have z3 := L.z3; have v3 := L.v3; have t4 := L.t4; have a4 := L.a4; have z4 := L.z4; have v4 := L.v4; have t22 := L.t22; have a22 := L.a22; have z22 := L.z22; have v22 := L.v22; have aE := L.aE; have zE := L.zE
  go_enter L.f, Try.ntmps37
  go_wp2
  go_ret
  exact ⟨rfl, rfl⟩
end Go.Proofs.Ytgjkidclpehnjaa.Pr

namespace Go.Proofs.Ytgjkidclpehnjaa.Pr
open Go.Shelf Go.RowKit Go.Lib Go.Sort Go.Proofs.Ytgjkidclpehnjaa

structure CpMuF (P : Program) (k : Nat) : Prop where
  mixed : P.follows .mixedOrders = true
  t3 : P.underlying 3 = some (TypeDesc.int IntKind.i64)
  a3 : ∀ w, (isAgg 3).run P w = .ok false w
  z3 : ∀ w, (Go.sizeOf 3).run P w = .ok 1 w
  v3 : ∀ w, (zeroValue 3).run P w = .ok (Value.int IntKind.i64 0) w
  t4 : P.underlying 4 = some (TypeDesc.bool)
  a4 : ∀ w, (isAgg 4).run P w = .ok false w
  z4 : ∀ w, (Go.sizeOf 4).run P w = .ok 1 w
  v4 : ∀ w, (zeroValue 4).run P w = .ok (Value.bool false) w
  t22 : P.underlying 43 = some (TypeDesc.slice 27)
  a22 : ∀ w, (isAgg 43).run P w = .ok false w
  z22 : ∀ w, (Go.sizeOf 43).run P w = .ok 1 w
  v22 : ∀ w, (zeroValue 43).run P w = .ok (Value.slice none 0 0) w
  aE : ∀ w, (isAgg 27).run P w = .ok true w
  zE : ∀ w, (Go.sizeOf 27).run P w = .ok k w
  f : P.funcs[35]? = some Try.f35

theorem CpMuF.here : CpMuF Try.prog 4 :=
  ⟨by kernel_rfl, Try.underlying3, Try.isAgg3, Try.sizeOf3, Try.zeroValue3, Try.underlying4, Try.isAgg4, Try.sizeOf4, Try.zeroValue4, Try.underlying43, Try.isAgg43, Try.sizeOf43, Try.zeroValue43, Try.isAgg27, Try.sizeOf27, Try.func35⟩

variable {P : Program} {α : Type} [Inhabited α] [DecidableEq α]

set_option maxHeartbeats 4000000 in
set_option maxRecDepth 1000000 in
theorem CpMu.compact {k : Nat} (L : CpMuF P k) (enc : α → List Value) (z : α) (heq : EqlAt P 27 (fun x => .agg (enc x).toArray) (fun x y => decide (x = y))) (hne : ∀ (x y : α) (w : World), Sem.run P (binOp .neq 27 (.agg (enc x).toArray) (.agg (enc y).toArray)) w = .ok (.bool (!decide (x = y))) w)
    (hz : ∀ w, (zeroValue 27).run P w = .ok (.agg (enc z).toArray) w) (blk off cap n : Nat) (D : List α) (d0 : Array α) (w0 w : World) (R : RowK enc k w0 blk off d0) (hk0 : 0 < k) (S : SWK enc k w0 blk off D.toArray w) (hs : d0.size = n) (hn : D.length = n) (hcap : n ≤ cap) (hbig : n < 4611686018427387904) :
    Calls P 35 #[.slice (some ⟨blk, off, none⟩) n cap] w fun e w' => ∃ Z, e = .returned (.slice (some ⟨blk, off, none⟩) (compactL D).length cap) ∧ SWK enc k w0 blk off (compactL D ++ Z).toArray w' ∧ (compactL D).length + Z.length = n := by
  have mixed := L.mixed; have t3 := L.t3; have a3 := L.a3; have z3 := L.z3; have v3 := L.v3; have t4 := L.t4; have a4 := L.a4; have z4 := L.z4; have v4 := L.v4; have t22 := L.t22; have a22 := L.a22; have z22 := L.z22; have v22 := L.v22; have aE := L.aE; have zE := L.zE
  have HQ : Hid (∀ (x y : α) (w : World), Sem.run P (binOp .eql 27 (.agg (enc x).toArray) (.agg (enc y).toArray)) w = .ok (.bool (decide (x = y))) w) := heq.1
  have HN : Hid (∀ (x y : α) (w : World), Sem.run P (binOp .neq 27 (.agg (enc x).toArray) (.agg (enc y).toArray)) w = .ok (.bool (!decide (x = y))) w) := hne
  have HG : Hid (∀ (op : BinOp) (a b : Operand) (x y : α) (w : World), Sem.run P (eqGuard op 27 a b (.agg (enc x).toArray) (.agg (enc y).toArray)) w = .ok () w) := heq.2
  have HZ : Hid (∀ w, (zeroValue 27).run P w = .ok (.agg (enc z).toArray) w) := hz
  have HE : Hid (d0.size = n ∧ D.length = n) := ⟨hs, hn⟩
  have S0 : Aside (SWK enc k w0 blk off D.toArray w) := S
  clear heq hne hz S hs hn
  by_cases h2 : n < 2
  · have h2z : (n : Int) < 2 := by omega
    have hc : Hid (compactL D = D) := by
      have := HE.out.2
      match D, this with
      | [], _ => rfl
      | [x], _ => rfl
      | x :: y :: D, h => exfalso; simp at h; omega
    go_enter L.f, Try.ntmps35
    go_wp2
    go_ret
    exact ⟨[], by rw [hc.out, HE.out.2]; rfl, by rw [hc.out, List.append_nil]; exact S0.out, by rw [hc.out, HE.out.2]; rfl⟩
  · have h2z : ¬ (n : Int) < 2 := by omega
    go_enter L.f, Try.ntmps35
    go_wp2
    go_loopg [3] n (fun gk s3 wr => ∃ (j : Nat) (A B : List α) (x : α), s3 = .int .i64 j ∧ 1 ≤ j ∧ j ≤ n ∧ n - j ≤ gk ∧ Hid (D = A ++ x :: B ∧ A.length + 1 = j ∧ compactL D = (A ++ [x]) ++ compactFrom x B) ∧ Aside (SWK enc k w0 blk off D.toArray wr))
    case atStart =>
      have h := HE.out.2
      match D, h, S0 with
      | [], h, S0 => exfalso; simp at h; omega
      | x :: D, h, S0 => exact ⟨1, [], D, x, rfl, Nat.le_refl _, by omega, by omega, ⟨rfl, rfl, rfl⟩, S0⟩
    case round =>
      clear S0
      obtain ⟨j, A, B, x, rfl, hj1, hjn, hg, HD, S1⟩ := hrel
      have hds : Hid (D.toArray.size = d0.size) := by have h := HE.out; show _ = _; simp; omega
      by_cases hlt : j < n
      · have hltz : (j : Int) < (n : Int) := by omega
        have hcapz : (n : Int) ≤ (cap : Int) := by omega
        obtain ⟨i, rfl⟩ : ∃ i, j = i + 1 := ⟨j - 1, by omega⟩
        have hi1 : (i : Int) + 1 < (n : Int) := by omega
        have hi0 : (i : Int) < (n : Int) := by omega
        have p0 : (0 : Int) ≤ (i : Int) + 1 := by omega
        have e0 : ((i : Int) + 1).toNat = i + 1 := by omega
        have wp0 : IntKind.i64.wrap (i : Int) = (i : Int) := by rw [IntKind.wrap_i64]; omega
        obtain ⟨y, B2, hB⟩ : ∃ y B2, B = y :: B2 := by
          cases B with
          | nil => exfalso; have h := HD.out; have h3 := HE.out.2; rw [h.1] at h3; simp at h3; omega
          | cons y B2 => exact ⟨y, B2, rfl⟩
        subst hB
        have hsz : D.toArray.size = n := by have h := HE.out.2; simpa using h
        have l1 := S1.out.ld R hds.out P (i + 1) (by omega)
        have l2 := S1.out.ld R hds.out P i (by omega)
        have e1 : D.toArray[i + 1]! = y := by
          have h := HD.out
          have h3 := get_mid (A ++ [x]) y B2
          rw [show (A ++ [x]) ++ y :: B2 = D from by rw [h.1]; simp, show (A ++ [x]).length = i + 1 from by simp; omega] at h3
          exact h3
        have e2 : D.toArray[i]! = x := by
          have h := HD.out
          have h3 := get_mid A x (y :: B2)
          rw [← h.1, show A.length = i from by omega] at h3
          exact h3
        rw [e1] at l1
        rw [e2] at l2
        have hq := HQ.out y x
        have hg' := fun op a b => HG.out op a b y x
        clear hsz e1 e2
        have n1 : (enc y).length = k := R.hk _
        have n2 : (enc x).length = k := R.hk _
        generalize enc y = cI at l1 hq hg' n1
        generalize enc x = cJ at l2 hq hg' n2
        by_cases hyx : y = x
        · have hd : decide (y = x) = true := decide_eq_true hyx
          rw [hd] at hq
          go_wp2_with fail
          go_quiet_grown (fail)
          have S2 : Aside (SWK enc k w0 blk off D.toArray (grow (wr.drewN nq) osq)) := S1.out.grown nq osq
          clear l1 l2 hq hg' n1 n2 S1 hd
          generalize grow (wr.drewN nq) osq = wv at S2 ⊢
          clear nq osq
          go_wp2
          go_loopg [3, 5] n (fun gk s3 s5 wr => ∃ (kk k2 : Nat) (C M0 Rr : List α) (p : α), s3 = .int .i64 kk ∧ s5 = .int .i64 k2 ∧ 1 ≤ k2 ∧ i + 1 + k2 ≤ n ∧ n - (i + 1 + k2) ≤ gk ∧ kk < i + 1 + k2 ∧ Hid (C.length = kk ∧ C.length + M0.length = i + k2 ∧ C.length + M0.length + 1 + Rr.length = n ∧ compactL D = C ++ compactFrom p Rr) ∧ Aside (SWK enc k w0 blk off ((C ++ M0) ++ p :: Rr).toArray wr))
          case atStart =>
            have h := HD.out
            refine ⟨i + 1, 1, A ++ [x], [], B2, x, by first | rfl | go_num, by first | rfl | go_num, Nat.le_refl _, by omega, by omega, by omega, ⟨by simp; omega, by simp; omega, ?_, ?_⟩, ?_⟩
            · have h3 := HE.out.2; rw [h.1] at h3; simp at h3 ⊢; omega
            · rw [h.2.2, hyx, compactFrom, if_pos rfl]
            · have e : (A ++ [x] ++ []) ++ x :: B2 = D := by rw [h.1, hyx]; simp
              rw [e]; exact S2
          case round =>
            clear S2
            obtain ⟨kk, k2, C, M0, Rr, p, rfl, rfl, hk1, hkn, hg2, hkk, HI, S3⟩ := hrel
            have hds2 : Hid (((C ++ M0) ++ p :: Rr).toArray.size = d0.size) := by have h := HI.out; have h3 := HE.out; show _ = _; simp; omega
            have hkkz : (kk : Int) < (n : Int) := by omega
            by_cases hlt2 : i + 1 + k2 < n
            · obtain ⟨q, rfl⟩ : ∃ q, k2 = q + 1 := ⟨k2 - 1, by omega⟩
              obtain ⟨r, R2, hR⟩ : ∃ r R2, Rr = r :: R2 := by
                cases Rr with
                | nil => exfalso; have h := HI.out; simp at h; omega
                | cons r R2 => exact ⟨r, R2, rfl⟩
              subst hR
              have p1 : (0 : Int) ≤ (q : Int) + 1 := by omega
              have e1' : ((q : Int) + 1).toNat = q + 1 := by omega
              have wq0 : IntKind.i64.wrap (q : Int) = (q : Int) := by rw [IntKind.wrap_i64]; omega
              have hlt2z : (q : Int) + 1 < ((n - (i + 1) : Nat) : Int) := by omega
              have hlt2z' : (q : Int) + 1 < (n : Int) - ((i : Int) + 1) := by omega
              have hqz : (q : Int) < (n : Int) - ((i : Int) + 1) := by omega
              have hqz' : (q : Int) < ((n - (i + 1) : Nat) : Int) := by omega
              have l1 := S3.out.ld R hds2.out P (i + 1 + (q + 1)) (by have h := HI.out; simp; omega)
              have l2 := S3.out.ld R hds2.out P (i + 1 + q) (by have h := HI.out; simp; omega)
              have l0 := S3.out.load R hds2.out P (i + 1 + (q + 1)) (by have h := HI.out; simp; omega)
              have e1 : ((C ++ M0) ++ p :: r :: R2).toArray[i + 1 + (q + 1)]! = r := by
                have h := HI.out
                have h3 := get_mid (C ++ M0 ++ [p]) r R2
                rw [show (C ++ M0 ++ [p]) ++ r :: R2 = (C ++ M0) ++ p :: r :: R2 from by simp, show (C ++ M0 ++ [p]).length = i + 1 + (q + 1) from by simp; omega] at h3
                exact h3
              have e2 : ((C ++ M0) ++ p :: r :: R2).toArray[i + 1 + q]! = p := by
                have h := HI.out
                have h3 := get_mid (C ++ M0) p (r :: R2)
                rw [show (C ++ M0).length = i + 1 + q from by simp; omega] at h3
                exact h3
              rw [e1, Nat.add_mul (i + 1) (q + 1) k, ← Nat.add_assoc off] at l1
              rw [e2, Nat.add_mul (i + 1) q k, ← Nat.add_assoc off] at l2
              rw [e1, Nat.add_mul (i + 1) (q + 1) k, ← Nat.add_assoc off] at l0
              have hq := HN.out r p
              have hg' := fun op a b => HG.out op a b r p
              clear e1 e2
              have n1 : (enc r).length = k := R.hk _
              have n2 : (enc p).length = k := R.hk _
              by_cases hrp : r = p
              · have hd : (!decide (r = p)) = false := by simp [hrp]
                rw [hd] at hq
                generalize enc r = cI at l1 l0 hq hg' n1
                generalize enc p = cJ at l2 hq hg' n2
                go_wp2_with fail
                go_quiet_grown (fail)
                have S4 : Aside (SWK enc k w0 blk off ((C ++ (M0 ++ [p])) ++ r :: R2).toArray (grow (wr.drewN nq) osq)) := SWK_cong (S3.out.grown nq osq) (by simp)
                clear l1 l2 l0 hq hg' n1 n2 S3 hd
                generalize grow (wr.drewN nq) osq = wv at S4 ⊢
                clear nq osq
                go_wp2
                go_roundg (n - (i + 1 + (q + 1 + 1)))
                case measure => omega
                case rel =>
                  have h := HI.out
                  exact ⟨kk, q + 1 + 1, C, M0 ++ [p], R2, r, rfl, by first | rfl | go_num, by omega, by omega, Nat.le_refl _, by omega, ⟨h.1, by simp; omega, by simp at h ⊢; omega, by rw [h.2.2.2, compactFrom, if_pos hrp, hrp]⟩, S4⟩
              · have hd : (!decide (r = p)) = true := by simp [hrp]
                rw [hd] at hq
                obtain ⟨m, M1, hM⟩ : ∃ m M1, M0 ++ [p] = m :: M1 := by
                  cases M0 with
                  | nil => exact ⟨p, [], rfl⟩
                  | cons m M => exact ⟨m, M ++ [p], rfl⟩
                have HM : Hid (M0 ++ [p] = m :: M1) := hM
                clear hM
                have S4 : Aside (∀ nq osq, SWK enc k w0 blk off (C ++ [m] ++ (M1 ++ r :: R2)).toArray (grow (wr.drewN nq) osq) ∧ storeCells ⟨blk, off + kk * k, none⟩ (enc r) 0 = storeCells ⟨blk, off + kk * k, none⟩ (enc r) 0) := fun nq osq => ⟨SWK_cong (S3.out.grown nq osq) (by
                  have := congrArg (fun l => C ++ l ++ (r :: R2)) HM.out
                  simpa using this), rfl⟩
                have s1 : ∀ nq osq, Sem.run P (storeCells ⟨blk, off + kk * k, none⟩ (enc r) 0) (grow (wr.drewN nq) osq) = .ok () ((grow (wr.drewN nq) osq).setCells blk (off + kk * k) (enc r)) := fun nq osq =>
                  stores_of_holds P ((S3.out.grown nq osq).holds R.hblk R.hH hds2.out) (kk * k) _ (by rw [R.hk, size_flatK]; exact rowK_bnd _ k kk (by have h := HI.out; simp; omega)) (R.h1 _)
                have l3 : ∀ nq osq, Sem.run P (loadCellsFrom ⟨blk, off + (i + 1) * k + (q + 1) * k, none⟩ 0 k #[]) (grow (wr.drewN nq) osq) = .ok (enc r).toArray (grow (wr.drewN nq) osq) := l1
                have S5 : Aside (∀ nq osq, SWK enc k w0 blk off (((C ++ [r]) ++ M1) ++ r :: R2).toArray ((grow (wr.drewN nq) osq).setCells blk (off + kk * k) (enc r))) := fun nq osq => by
                  have h := HI.out
                  have h3 := SWK_put (Y := [r]) R.hk R.hblk (S4.out nq osq).1 rfl
                  rw [h.1] at h3
                  exact SWK_cong (by simpa using h3) (by simp)
                clear S4
                generalize enc r = cI at l1 l3 s1 S5 hq hg' n1 l0
                generalize enc p = cJ at l2 hq hg' n2
                clear l0
                go_wp2_with fail
                go_quiet_grown (fail)
                replace l3 := l3 nq osq
                replace s1 := s1 nq osq
                have S6 : Aside (SWK enc k w0 blk off (((C ++ [r]) ++ M1) ++ r :: R2).toArray ((grow (wr.drewN nq) osq).setCells blk (off + kk * k) cI)) := S5.out nq osq
                clear l1 l2 hq hg' S3 hd S5
                generalize grow (wr.drewN nq) osq = wv at S6 l3 s1 ⊢
                clear nq osq
                go_wp2
                go_roundg (n - (i + 1 + (q + 1 + 1)))
                case measure => omega
                case rel =>
                  have h := HI.out
                  have hm := congrArg List.length HM.out
                  simp at hm
                  exact ⟨kk + 1, q + 1 + 1, C ++ [r], M1, R2, r, by first | rfl | go_num, by first | rfl | go_num, by omega, by omega, Nat.le_refl _, by omega, ⟨by simp; omega, by simp; omega, by simp at h ⊢; omega, by rw [h.2.2.2, compactFrom, if_neg hrp]; simp⟩, S6⟩
            · have hlt2z : ¬ (k2 : Int) < ((n - (i + 1) : Nat) : Int) := by omega
              have hlt2z' : ¬ (k2 : Int) < (n : Int) - ((i : Int) + 1) := by omega
              have hRn : Rr = [] := List.eq_nil_of_length_eq_zero (by have h := HI.out; omega)
              subst hRn
              have hlen : (M0 ++ [p]).length = n - kk := by have h := HI.out; simp at h ⊢; omega
              have hcl : ∀ ty, (Builtin.clear_ #[43] ty #[.slice (some ⟨blk, off + kk * k, none⟩) (n - kk) (cap - kk)]).run P wr = .ok (.tuple #[]) (wr.setCells blk (off + kk * k) ((List.replicate (n - kk) z).flatMap enc)) := fun ty => by
                have hH := S3.out.holds R.hblk R.hH hds2.out
                have hsz : (flatK enc k ((C ++ M0) ++ [p]).toArray).size = n * k := by
                  have h := HI.out
                  rw [size_flatK]; congr 1; simp at h ⊢; omega
                have hb : ∀ t, t < (n - kk) * k → kk * k + t < (flatK enc k ((C ++ M0) ++ [p]).toArray).size := fun t ht => by
                  rw [hsz]
                  have h4 : kk * k + (n - kk) * k = n * k := by rw [← Nat.add_mul]; congr 1; omega
                  omega
                have h3 := run_clear_structs (P := P) wr 43 27 ty _ t22 HZ.out (by simpa [Value.cells] using R.h1 z) blk (off + kk * k) (n - kk) (cap - kk) (by omega)
                  (fun t ht => by rw [Nat.add_assoc, (hH _ (hb t (by simpa [Value.cells, R.hk] using ht))).1]; rfl) (fun t ht => by rw [Nat.add_assoc]; exact (hH _ (hb t (by simpa [Value.cells, R.hk] using ht))).2)
                rw [h3]
                congr 2
                rw [List.flatMap_def, List.map_replicate]; simp [Value.cells]
              have S4 : Aside (SWK enc k w0 blk off (C ++ List.replicate (n - kk) z).toArray (wr.setCells blk (off + kk * k) ((List.replicate (n - kk) z).flatMap enc))) := by
                have h := HI.out
                have h3 := SWK_put (A := C) (M := M0 ++ [p]) (B := []) (Y := List.replicate (n - kk) z) R.hk R.hblk (SWK_cong S3.out (by simp)) (by rw [hlen]; simp)
                rw [h.1] at h3
                exact SWK_cong h3 (by simp)
              clear S3 hlen
              generalize (List.replicate (n - kk) z).flatMap enc = zs at hcl S4
              go_wp2
              go_ret
              have h := HI.out
              have hc : compactL D = C := by rw [h.2.2.2, compactFrom, List.append_nil]
              exact ⟨by rw [hc, h.1]; rfl, List.replicate (n - kk) z, by rw [hc]; exact S4.out, by rw [hc]; simp; omega⟩
        · have hd : decide (y = x) = false := decide_eq_false hyx
          rw [hd] at hq
          go_wp2_with fail
          go_quiet_grown (fail)
          have S2 : Aside (SWK enc k w0 blk off D.toArray (grow (wr.drewN nq) osq)) := S1.out.grown nq osq
          clear l1 l2 hq hg' n1 n2 S1 hd
          generalize grow (wr.drewN nq) osq = wv at S2 ⊢
          clear nq osq
          go_wp2
          go_roundg (n - (i + 1 + 1))
          case measure => omega
          case rel =>
            have h := HD.out
            exact ⟨i + 1 + 1, A ++ [x], B2, y, by first | rfl | go_num, by omega, by omega, Nat.le_refl _, ⟨by rw [h.1]; simp, by simp; omega, by rw [h.2.2, compactFrom, if_neg hyx]; simp⟩, S2⟩
      · have hltz : ¬ (j : Int) < (n : Int) := by omega
        have hB : B = [] := List.eq_nil_of_length_eq_zero (by have h := HD.out; have h3 := HE.out.2; rw [h.1] at h3; simp at h3; omega)
        subst hB
        have hc : Hid (compactL D = D) := by have h := HD.out; show _ = _; rw [h.2.2, compactFrom, List.append_nil, h.1]
        go_wp2
        go_ret
        exact ⟨by rw [hc.out, HE.out.2]; rfl, [], by rw [hc.out, List.append_nil]; exact S1.out, by rw [hc.out, HE.out.2]; rfl⟩

set_option maxHeartbeats 1000000 in
theorem CpMu.compact_none {k : Nat} (L : CpMuF P k) (cap : Nat) (w : World) : Calls P 35 #[.slice none 0 cap] w fun e w' => e = .returned (.slice none 0 cap) ∧ w' = w := by
  have mixed := L.mixed; have t3 := L.t3; have a3 := L.a3; have z3 := L.z3; have v3 := L.v3; have t4 := L.t4; have a4 := L.a4; have z4 := L.z4; have v4 := L.v4; have t22 := L.t22; have a22 := L.a22; have z22 := L.z22; have v22 := L.v22; have aE := L.aE; have zE := L.zE
  go_enter L.f, Try.ntmps35
  go_wp2
  go_ret
  exact ⟨rfl, rfl⟩
end Go.Proofs.Ytgjkidclpehnjaa.Pr

namespace Go.Proofs.Ytgjkidclpehnjaa.Pr
open Go.RowKit Go.Proofs.YtgjkidclpehnjaaW.PrintWords Go.Proofs.YtgjkidclpehnjaaW.PrintLast Go.Proofs.YtgjkidclpehnjaaW.PrintMore
attribute [local go_sem] max2_int min2_int max_two min_two max_three min_three max_four min_four   -- for this text's walks alone
set_option linter.unusedVariables false
set_option linter.unusedSimpArgs false

theorem eqA27 (d : Nat) (w : World) (x0 y0 : Bool) (x1 y1 : ByteArray) (x2 y2 : ByteArray) (x3 y3 : ByteArray) :
    (Op.equalIn (d + 3) 27 (.agg #[.bool x0, .string x1, .string x2, .string x3]) (.agg #[.bool y0, .string y1, .string y2, .string y3])).run Try.prog w = .ok (x0 == y0 && ((x1.toList == y1.toList && (x2.toList == y2.toList && (x3.toList == y3.toList))))) w := by
  refine eqA_of Try.underlying27 (by kernel_rfl) ?_
  refine eqf_cons (by rfl) (by go_simp; rfl) (by go_simp; rfl) (by go_simp) ?_
  exact eqf_last (by rfl) (by go_simp) (by go_simp) (eqA25 (d + 0) w _ _ _ _ _ _)
end Go.Proofs.Ytgjkidclpehnjaa.Pr

namespace Go.Proofs.Ytgjkidclpehnjaa.Pr
open Go.Shelf Go.RowKit Go.Lib Go.Sort Go.Proofs.Ytgjkidclpehnjaa
open Go.Proofs.YtgjkidclpehnjaaW.PrintWords Go.Proofs.YtgjkidclpehnjaaW.PrintLast Go.Proofs.YtgjkidclpehnjaaW.PrintMore

theorem bl_beq (x y : ByteArray) : (x.toList == y.toList) = decide (x = y) := by
  rw [ByteArray.toList_eq, ByteArray.toList_eq]
  by_cases h : x = y
  · simp [h]
  · have h2 : ¬ x.data.toList = y.data.toList := fun e => h (bl_inj.1 e)
    rw [decide_eq_false h]
    exact beq_eq_false_iff_ne.2 h2
theorem eqx_T (x y : T) : (x.f0.toList == y.f0.toList && (x.f1.toList == y.f1.toList && (x.f2.toList == y.f2.toList))) = decide (x = y) := by
  rw [bl_beq, bl_beq, bl_beq]
  obtain ⟨x0, x1, x2⟩ := x
  obtain ⟨y0, y1, y2⟩ := y
  by_cases h0 : x0 = y0 <;> by_cases h1 : x1 = y1 <;> by_cases h2 : x2 = y2 <;> simp [h0, h1, h2]
theorem eql_T : EqlAt Try.prog 25 (fun x : T => .agg (enT x).toArray) (fun x y => decide (x = y)) := by
  refine ⟨fun x y w => ?_, GuardAt.agg _ (by kernel_rfl)⟩
  simp only [enT]
  rw [run_eql_struct, show (10000 : Nat) = 9998 + 2 from rfl, eqA25, eqx_T]
  rfl
theorem neq_T (x y : T) (w : World) : Sem.run Try.prog (binOp .neq 25 (.agg (enT x).toArray) (.agg (enT y).toArray)) w = .ok (.bool (!decide (x = y))) w := by
  simp only [enT]
  rw [run_neq_struct, show (10000 : Nat) = 9998 + 2 from rfl, eqA25, eqx_T]
  rfl
theorem eqx_Mu (x y : Mu) : (x.f0 == y.f0 && (x.f1.f0.toList == y.f1.f0.toList && (x.f1.f1.toList == y.f1.f1.toList && (x.f1.f2.toList == y.f1.f2.toList)))) = decide (x = y) := by
  rw [eqx_T]
  obtain ⟨x0, x1⟩ := x
  obtain ⟨y0, y1⟩ := y
  by_cases h0 : x0 = y0 <;> by_cases h1 : x1 = y1 <;> simp [h0, h1]
theorem eql_Mu : EqlAt Try.prog 27 (fun x : Mu => .agg (enMu x).toArray) (fun x y => decide (x = y)) := by
  refine ⟨fun x y w => ?_, GuardAt.agg _ (by kernel_rfl)⟩
  simp only [enMu, enT]
  rw [run_eql_struct, show (10000 : Nat) = 9997 + 3 from rfl, eqA27, eqx_Mu]
  rfl
theorem neq_Mu (x y : Mu) (w : World) : Sem.run Try.prog (binOp .neq 27 (.agg (enMu x).toArray) (.agg (enMu y).toArray)) w = .ok (.bool (!decide (x = y))) w := by
  simp only [enMu, enT]
  rw [run_neq_struct, show (10000 : Nat) = 9997 + 3 from rfl, eqA27, eqx_Mu]
  rfl
end Go.Proofs.Ytgjkidclpehnjaa.Pr

namespace Go.Proofs.Ytgjkidclpehnjaa.Pr
open Go.Shelf Go.RowKit Go.Lib Go.Sort Go.Proofs.Ytgjkidclpehnjaa
open Go.Proofs.YtgjkidclpehnjaaW.PrintWords Go.Proofs.YtgjkidclpehnjaaW.PrintLast Go.Proofs.YtgjkidclpehnjaaW.PrintMore

theorem enT_len (x : T) : (enT x).length = 3 := rfl
theorem enMu_len (x : Mu) : (enMu x).length = 4 := rfl
theorem enRo_len (x : Ro) : (enRo x).length = 5 := rfl
theorem enCh_len (x : Ch) : (enCh x).length = 5 := rfl
theorem enT_one (x : T) : ∀ v ∈ enT x, v.oneCell' = true := by intro v hv; simp [enT] at hv; rcases hv with rfl | rfl | rfl <;> rfl
theorem enMu_one (x : Mu) : ∀ v ∈ enMu x, v.oneCell' = true := by intro v hv; simp [enMu, enT] at hv; rcases hv with rfl | rfl | rfl | rfl <;> rfl
theorem enRo_one (x : Ro) : ∀ v ∈ enRo x, v.oneCell' = true := by intro v hv; simp [enRo, enT] at hv; rcases hv with rfl | rfl | rfl | rfl | rfl <;> rfl
theorem enCh_one (x : Ch) : ∀ v ∈ enCh x, v.oneCell' = true := by intro v hv; simp [enCh, enMu, enT] at hv; rcases hv with rfl | rfl | rfl | rfl | rfl <;> rfl

theorem grownBy_SWK {α : Type} [Inhabited α] {enc : α → List Value} {k : Nat} {w w' : World} {g : Nat} {d : Array α} (S : SWK enc k w g 0 d w') : w.grownBy w' (some g) := by
  obtain ⟨n, os, rfl⟩ := S
  refine ⟨rfl, rfl, rfl, by unfold sortWorldK; rw [size_grow, size_putRowK]; exact Nat.le_add_right _ _, fun i hi hne => ?_⟩
  unfold sortWorldK
  rw [heap_grow_old _ _ (by rw [size_putRowK]; exact hi)]
  have : g ≠ i := fun e => hne (by rw [e])
  simp [putRowK, putRow, mapBlock, Sort.ahead, Array.getElem?_modify, this]

theorem lays_of {α : Type} [Inhabited α] {P : Program} {g : Nat} {enc : α → List Value} {cf : α → α → Int} (h : ∀ (x y : α) (W : World), Calls P g #[.agg (enc x).toArray, .agg (enc y).toArray] W fun e w' => e = .returned (.int .i64 (cf x y)) ∧ Gr W w') (k blk off sz : Nat) (w : World) :
    CmpLays P g #[] enc k cf blk off sz w := fun m os dk _ x y => by
  rw [Array.append_empty]
  exact h x y _

theorem msort_nil {α : Type} (lt : α → α → Bool) : msort lt [] = [] := by simp [msort]

/-! ### SortFunc -/
theorem sortF_of {α : Type} [Inhabited α] {ρ : Ren} (L : SlLaysF0.n6 Try.prog ρ) (e k : Nat) (aE : ∀ w, (isAgg (ρ.t 24)).run Try.prog w = .ok true w) (zE : ∀ w, (Go.sizeOf (ρ.t 24)).run Try.prog w = .ok k w) (enc : α → List Value) (hk : ∀ x, (enc x).length = k) (h1 : ∀ x, ∀ v ∈ enc x, v.oneCell' = true)
    (cf : α → α → Int) (hO : SWO (ltOf cf)) (g : Nat) (eg : ∀ args w, (callFunc g args).run Try.prog w = .ok (.enter g args) w) (hc : ∀ (x y : α) (W : World), Calls Try.prog g #[.agg (enc x).toArray, .agg (enc y).toArray] W fun e w' => e = .returned (.int .i64 (cf x y)) ∧ Gr W w')
    (base : Nat) (v : Value) (l : List α) (w : World) (h : w.ownsRow base e k v l.length (l.flatMap enc)) (hl : l.length < 4611686018427387904) (he : ∀ x ∈ l, ∀ y ∈ l, ltOf cf x y = false → ltOf cf y x = false → x = y) :
    Calls Try.prog (ρ.f 6) #[v, .func (.func g) #[] #[]] w fun r w' => r = .returned (.tuple #[]) ∧ w'.ownsRow base e k v (msort (ltOf cf) l).length ((msort (ltOf cf) l).flatMap enc) ∧ w.grownBy w' v.ownBlock := by
  rcases h.2 with ⟨rfl, hn⟩ | ⟨b, cap, cur, rfl, _⟩
  · obtain rfl : l = [] := List.eq_nil_of_length_eq_zero hn
    refine (AnyF.slices_SortFunc_none L none 0 (.func (.func g) #[] #[]) w).mono ?_
    rintro r w' ⟨rfl, rfl⟩
    exact ⟨rfl, by rw [msort_nil]; exact h, World.grownBy.refl _ _⟩
  · obtain ⟨hH, hb, hbase, hcap⟩ := holdsK_of_own hk h rfl
    refine (AnyQ.slices_SortFunc L k aE zE enc hk h1 cf hO g #[] b 0 cap l.toArray w eg (lays_of hc k b 0 _ w) hH hb (by simpa using hl)).mono ?_
    rintro r w' ⟨rfl, d', n, os, hp, hs, rfl⟩
    obtain ⟨p1, p2⟩ := sortedIn_list hp hs
    have p1' : d'.toList.Perm l := by simpa using p1
    have hd : d'.toList = msort (ltOf cf) l := sorted_perm_eq hO p2 (msort_sorted hO l) (p1'.trans (msort_perm _ l).symm) (fun x hx y hy => he x (p1'.mem_iff.1 hx) y (p1'.mem_iff.1 hy))
    have S : SWK enc k w b 0 (msort (ltOf cf) l ++ []).toArray (sortWorldK enc k w b 0 n d' os) := by
      rw [List.append_nil, ← hd, Array.toArray_toList]; exact ⟨n, os, rfl⟩
    have hml : (msort (ltOf cf) l).length = l.length := (msort_perm _ l).length_eq
    refine ⟨rfl, ?_, grownBy_SWK S⟩
    have := own_of_SWK hk h S (by simp [hml])
    rw [hml] at this ⊢
    exact this

theorem sort_T (base : Nat) (v : Value) (l : List T) (w : World) (h : w.ownsRow base 25 3 v l.length (l.flatMap enT)) (hl : l.length < 4611686018427387904) :
    Calls Try.prog 29 #[v, .func (.func 24) #[] #[]] w fun r w' => r = .returned (.tuple #[]) ∧ w'.ownsRow base 25 3 v (msort ltT l).length ((msort ltT l).flatMap enT) ∧ w.grownBy w' v.ownBlock :=
  sortF_of Try.sortTuple 25 3 Try.isAgg25 Try.sizeOf25 enT enT_len enT_one cmpT cmp_T.swo 24 (enters_of Try.func24 (by kernel_rfl) rfl) (fun x y W => tuple_Compare x y W) base v l w h hl
    (fun x _ y _ h1 h2 => by
      have a := cmp_T.anti x y
      unfold ltOf at h1 h2
      rw [decide_eq_false_iff_not] at h1 h2
      exact cmpT_zero.1 (by omega))

theorem sort_Mu (base : Nat) (v : Value) (l : List Mu) (w : World) (h : w.ownsRow base 27 4 v l.length (l.flatMap enMu)) (hl : l.length < 4611686018427387904) (he : ∀ x ∈ l, ∀ y ∈ l, x.f1 = y.f1 → x = y) :
    Calls Try.prog 33 #[v, .func (.func 34) #[] #[]] w fun r w' => r = .returned (.tuple #[]) ∧ w'.ownsRow base 27 4 v (msort ltMu l).length ((msort ltMu l).flatMap enMu) ∧ w.grownBy w' v.ownBlock :=
  sortF_of Try.sortMut 27 4 Try.isAgg27 Try.sizeOf27 enMu enMu_len enMu_one cmpMu cmp_Mu.swo 34 (enters_of Try.func34 (by kernel_rfl) rfl) (fun x y W => watch_Net1 x y W) base v l w h hl
    (fun x hx y hy h1 h2 => by
      have a := cmp_Mu.anti x y
      unfold ltOf at h1 h2
      rw [decide_eq_false_iff_not] at h1 h2
      exact he x hx y hy (cmpT_zero.1 (show cmpT x.f1 y.f1 = 0 by unfold cmpMu at *; omega)))

/-! ### SortStableFunc -/
theorem sort_Ch (base : Nat) (v : Value) (l : List Ch) (w : World) (h : w.ownsRow base 29 5 v l.length (l.flatMap enCh)) (hl : l.length < 4611686018427387904) :
    Calls Try.prog 27 #[v, .func (.func 28) #[] #[]] w fun r w' => r = .returned (.tuple #[]) ∧ w'.ownsRow base 29 5 v (msort ltCh l).length ((msort ltCh l).flatMap enCh) ∧ w.grownBy w' v.ownBlock := by
  rcases h.2 with ⟨rfl, hn⟩ | ⟨b, cap, cur, rfl, _⟩
  · obtain rfl : l = [] := List.eq_nil_of_length_eq_zero hn
    refine (StCh.sortStable_none StChF.here 28 0 #[] w).mono ?_
    rintro r w' ⟨rfl, rfl⟩
    exact ⟨rfl, by rw [msort_nil]; exact h, World.grownBy.refl _ _⟩
  · obtain ⟨hH, hb, hbase, hcap⟩ := holdsK_of_own enCh_len h rfl
    have R : RowK enCh 5 w b 0 l.toArray := ⟨enCh_len, enCh_one, hH, hb⟩
    have eg := enters_of Try.func28 (by kernel_rfl) rfl
    have hc := lays_of (fun x y W => watch_order x y W) 5 b 0 l.length w
    refine (StCh.sortStable StChF.here enCh cmpCh cmp_Ch.swo 28 #[] b 0 cap l.length l.toArray w R eg hc (by simp) hl
      (fun a b' dk W hdk S hab hb' => StCh.ins Try.insCh Try.isAgg29 Try.sizeOf29 enCh cmpCh cmp_Ch.swo 28 #[] b 0 cap l.length l.toArray w R eg hc (by simp) hl a b' dk W hdk S hab hb') l w rfl (SWK.start hH)).mono ?_
    rintro r w' ⟨rfl, W, S, hs, ht⟩
    obtain rfl := eq_msort cmp_Ch.swo hs ht
    have hml : (msort (ltOf cmpCh) l).length = l.length := (msort_perm _ l).length_eq
    refine ⟨rfl, ?_, grownBy_SWK S⟩
    have := own_of_SWK (C := msort (ltOf cmpCh) l) (Z := []) enCh_len h (SWK_cong S (by simp)) (by simp [hml])
    rw [hml] at this
    rw [show (msort ltCh l).length = l.length from hml]
    exact this

theorem sort_Ro (base : Nat) (v : Value) (l : List Ro) (w : World) (h : w.ownsRow base 51 5 v l.length (l.flatMap enRo)) (hl : l.length < 4611686018427387904) :
    Calls Try.prog 21 #[v, .func (.func 22) #[] #[]] w fun r w' => r = .returned (.tuple #[]) ∧ w'.ownsRow base 51 5 v (msort ltRo l).length ((msort ltRo l).flatMap enRo) ∧ w.grownBy w' v.ownBlock := by
  rcases h.2 with ⟨rfl, hn⟩ | ⟨b, cap, cur, rfl, _⟩
  · obtain rfl : l = [] := List.eq_nil_of_length_eq_zero hn
    refine (StRow.sortStable_none StRowF.here 22 0 #[] w).mono ?_
    rintro r w' ⟨rfl, rfl⟩
    exact ⟨rfl, by rw [msort_nil]; exact h, World.grownBy.refl _ _⟩
  · obtain ⟨hH, hb, hbase, hcap⟩ := holdsK_of_own enRo_len h rfl
    have R : RowK enRo 5 w b 0 l.toArray := ⟨enRo_len, enRo_one, hH, hb⟩
    have eg := enters_of Try.func22 (by kernel_rfl) rfl
    have hc := lays_of (fun x y W => watch_Rows1 x y W) 5 b 0 l.length w
    refine (StRow.sortStable StRowF.here enRo cmpRo cmp_Ro.swo 22 #[] b 0 cap l.length l.toArray w R eg hc (by simp) hl
      (fun a b' dk W hdk S hab hb' => StRow.ins Try.insRow Try.isAgg51 Try.sizeOf51 enRo cmpRo cmp_Ro.swo 22 #[] b 0 cap l.length l.toArray w R eg hc (by simp) hl a b' dk W hdk S hab hb') l w rfl (SWK.start hH)).mono ?_
    rintro r w' ⟨rfl, W, S, hs, ht⟩
    obtain rfl := eq_msort cmp_Ro.swo hs ht
    have hml : (msort (ltOf cmpRo) l).length = l.length := (msort_perm _ l).length_eq
    refine ⟨rfl, ?_, grownBy_SWK S⟩
    have := own_of_SWK (C := msort (ltOf cmpRo) l) (Z := []) enRo_len h (SWK_cong S (by simp)) (by simp [hml])
    rw [hml] at this
    rw [show (msort ltRo l).length = l.length from hml]
    exact this

/-! ### Compact -/
theorem compact_T (base : Nat) (v : Value) (l : List T) (w : World) (h : w.ownsRow base 25 3 v l.length (l.flatMap enT)) (hl : l.length < 4611686018427387904) :
    Calls Try.prog 37 #[v] w fun r w' => ∃ v', r = .returned v' ∧ w'.ownsRow base 25 3 v' (compactL l).length ((compactL l).flatMap enT) ∧ v'.ownBlock = v.ownBlock ∧ w.grownBy w' v.ownBlock := by
  rcases h.2 with ⟨rfl, hn⟩ | ⟨b, cap, cur, rfl, _⟩
  · obtain rfl : l = [] := List.eq_nil_of_length_eq_zero hn
    refine (CpT.compact_none CpTF.here 0 w).mono ?_
    rintro r w' ⟨rfl, rfl⟩
    exact ⟨_, rfl, h, rfl, World.grownBy.refl _ _⟩
  · obtain ⟨hH, hb, hbase, hcap⟩ := holdsK_of_own enT_len h rfl
    refine (CpT.compact CpTF.here enT z25 eql_T neq_T Try.zeroValue25 b 0 cap l.length l l.toArray w w ⟨enT_len, enT_one, hH, hb⟩ (by omega) (SWK.start hH) (by simp) rfl hcap hl).mono ?_
    rintro r w' ⟨Z, rfl, S, hz⟩
    exact ⟨_, rfl, own_of_SWK enT_len h S hz, rfl, grownBy_SWK S⟩

theorem compact_Mu (base : Nat) (v : Value) (l : List Mu) (w : World) (h : w.ownsRow base 27 4 v l.length (l.flatMap enMu)) (hl : l.length < 4611686018427387904) :
    Calls Try.prog 35 #[v] w fun r w' => ∃ v', r = .returned v' ∧ w'.ownsRow base 27 4 v' (compactL l).length ((compactL l).flatMap enMu) ∧ v'.ownBlock = v.ownBlock ∧ w.grownBy w' v.ownBlock := by
  rcases h.2 with ⟨rfl, hn⟩ | ⟨b, cap, cur, rfl, _⟩
  · obtain rfl : l = [] := List.eq_nil_of_length_eq_zero hn
    refine (CpMu.compact_none CpMuF.here 0 w).mono ?_
    rintro r w' ⟨rfl, rfl⟩
    exact ⟨_, rfl, h, rfl, World.grownBy.refl _ _⟩
  · obtain ⟨hH, hb, hbase, hcap⟩ := holdsK_of_own enMu_len h rfl
    refine (CpMu.compact CpMuF.here enMu z27 eql_Mu neq_Mu Try.zeroValue27 b 0 cap l.length l l.toArray w w ⟨enMu_len, enMu_one, hH, hb⟩ (by omega) (SWK.start hH) (by simp) rfl hcap hl).mono ?_
    rintro r w' ⟨Z, rfl, S, hz⟩
    exact ⟨_, rfl, own_of_SWK enMu_len h S hz, rfl, grownBy_SWK S⟩
theorem below_grown {base : Nat} {w0 w w' : World} {v : Value} {e : TypeId} {size n : Nat} {xs : List Value} (hb : Below base w0 w) (hg : w.grownBy w' v.ownBlock) (hbase : base ≤ w.heap.size) (ho : w.ownsRow base e size v n xs) : Below base w0 w' :=
  hb.grown hg hbase (fun k hk => (ho.lt k hk).1)
end Go.Proofs.Ytgjkidclpehnjaa.Pr

namespace Go.Proofs.Ytgjkidclpehnjaa.Pr
open Go.Shelf Go.RowKit Go.Lib Go.Sort Go.Proofs.Ytgjkidclpehnjaa
open Go.Proofs.YtgjkidclpehnjaaW.PrintWords Go.Proofs.YtgjkidclpehnjaaW.PrintLast Go.Proofs.YtgjkidclpehnjaaW.PrintMore

set_option maxHeartbeats 4000000 in
set_option maxRecDepth 100000 in
theorem watch_At.calls (A0 : Option Addr) (c0 : Nat) (l0 : List Ro) (a1 : Int) (r : List T) (w : World) (hr0 : Kd.C k51 w A0 l0.length l0) (hc0 : l0.length ≤ c0) (h : watch_At.f l0 a1 = some r) :
    Calls Try.prog 18 #[.slice A0 l0.length c0, .int .i64 a1] w fun e w' => ∃ v0_ : Value, e = .returned (v0_) ∧ Kd.R k25 25 w' w.heap.size (fun _ => True) v0_ r ∧ Below w.heap.size w w' := by
  obtain ⟨ht, rfl⟩ : l0.length ≤ 1073741824 ∧ compactL (msort ltT ((l0.filter (thereAt a1)).map (·.f0))) = r := by
    unfold watch_At.f tiny at h
    split at h
    · rename_i h1
      exact ⟨of_decide_eq_true h1, Option.some.inj h⟩
    · cases h
  have HR0 : Aside (Kd.C k51 w A0 l0.length l0) := hr0
  have HT : Aside (l0.length ≤ 1073741824) := ht
  clear hr0 hc0 h
  go_enter Try.func18, Try.ntmps18
  go_wp2
  go_loopg [5, 10] l0.length (fun gk s5 s10 wr => ∃ (i : Nat) (acc : List T), s10 = .int .i64 i ∧ i ≤ l0.length ∧ l0.length - i ≤ gk ∧ Hid (acc = ((l0.take i).filter (thereAt a1)).map (·.f0)) ∧ Aside (Kd.R k25 25 wr w.heap.size (fun _ => True) s5 acc) ∧ Aside (Below w.heap.size w wr))
  case atStart => exact ⟨0, [], rfl, Nat.zero_le _, Nat.le_refl _, rfl, Kd.R_nil _ _ _ _ _, Below.refl _ _⟩
  case round =>
    obtain ⟨i, acc, rfl, hi, hg, HA, HO, HB⟩ := hrel
    by_cases hlt : i < l0.length
    · have hltz : (i : Int) < (l0.length : Int) := by omega
      obtain ⟨ad, x, rfl, hx, h0, h1, h2, h3, h4⟩ := el_Ro HR0.out rfl i hlt
      replace h0 := cell_below HB.out h0
      replace h1 := cell_below HB.out h1
      replace h2 := cell_below HB.out h2
      replace h3 := cell_below HB.out h3
      replace h4 := cell_below HB.out h4
      have hsz := HB.out.size
      have hal : acc.length < 4294967296 := by
        rw [HA.out, List.length_map]
        have q1 := List.length_filter_le (thereAt a1) (l0.take i)
        have q2 := List.length_take_le i l0
        have q3 := HT.out
        omega
      have HL : Aside (acc.length < 4294967296 ∧ w.heap.size ≤ wr.heap.size) := ⟨hal, hsz⟩
      have HS : Hid (((l0.take (i + 1)).filter (thereAt a1)).map (·.f0) = acc ++ (if thereAt a1 x = true then [x.f0] else [])) := by
        show _ = _
        rw [HA.out, take_step l0 i x hx, List.filter_append, List.map_append]
        congr 1
        cases hq : thereAt a1 x <;> simp [hq]
      have HT2 : Hid (thereAt a1 x = decide (x.f1 ≤ a1 ∧ (x.f2 = 0 ∨ a1 < x.f2))) := rfl
      clear HA hal hsz hx
      obtain ⟨⟨t0, t1, t2⟩, x1, x2⟩ := x
      dsimp only at h0 h1 h2 h3 h4
      by_cases c1 : x1 ≤ a1
      · have d1 : decide (x1 ≤ a1) = true := decide_eq_true c1
        by_cases c2 : x2 = 0
        · have d2 : (x2 == 0) = true := by simp [c2]
          have hq : Hid (((l0.take (i + 1)).filter (thereAt a1)).map (·.f0) = acc ++ [⟨t0, t1, t2⟩]) := by
            show _ = _
            rw [HS.out, if_pos (by rw [HT2.out]; exact decide_eq_true ⟨c1, .inl c2⟩)]
          clear HS HT2
          go_wp2_with (at_builtin; refine app_T (w0 := w) w.heap.size rfl (.tmp 29) (.tmp 32) rfl u5 acc ⟨t0, t1, t2⟩ rfl (by first | (go_simp; done) | (go_simp; rfl)) ?aO ?aB ?aS HL.out.1 ?_; (case aO => exact Kd.R_alloc HO.out _); (case aB => exact HB.out.alloc HL.out.2 _); (case aS => have := HL.out.2; simp; omega); intro v1 w1 ho hb hg1 hat; have HO1 : Aside _ := ho; have HB1 : Aside _ := hb; clear ho hb hg1 hat)
          go_roundg (l0.length - (i + 1))
          case measure => omega
          case rel => exact ⟨i + 1, _, by first | rfl | go_num, by omega, Nat.le_refl _, hq.out.symm, HO1.out, HB1.out⟩
        · have d2 : (x2 == 0) = false := by simp [c2]
          by_cases c3 : a1 < x2
          · have d3 : decide (a1 < x2) = true := decide_eq_true c3
            have hq : Hid (((l0.take (i + 1)).filter (thereAt a1)).map (·.f0) = acc ++ [⟨t0, t1, t2⟩]) := by
              show _ = _
              rw [HS.out, if_pos (by rw [HT2.out]; exact decide_eq_true ⟨c1, .inr c3⟩)]
            clear HS HT2
            go_wp2_with (at_builtin; refine app_T (w0 := w) w.heap.size rfl (.tmp 29) (.tmp 32) rfl u5 acc ⟨t0, t1, t2⟩ rfl (by first | (go_simp; done) | (go_simp; rfl)) ?aO ?aB ?aS HL.out.1 ?_; (case aO => exact Kd.R_alloc HO.out _); (case aB => exact HB.out.alloc HL.out.2 _); (case aS => have := HL.out.2; simp; omega); intro v1 w1 ho hb hg1 hat; have HO1 : Aside _ := ho; have HB1 : Aside _ := hb; clear ho hb hg1 hat)
            go_roundg (l0.length - (i + 1))
            case measure => omega
            case rel => exact ⟨i + 1, _, by first | rfl | go_num, by omega, Nat.le_refl _, hq.out.symm, HO1.out, HB1.out⟩
          · have d3 : decide (a1 < x2) = false := decide_eq_false c3
            have hq : Hid (((l0.take (i + 1)).filter (thereAt a1)).map (·.f0) = acc) := by
              show _ = _
              rw [HS.out, if_neg (by rw [HT2.out, decide_eq_true_eq]; dsimp only; omega), List.append_nil]
            clear HS HT2
            go_wp2
            go_roundg (l0.length - (i + 1))
            case measure => omega
            case rel => exact ⟨i + 1, acc, by first | rfl | go_num, by omega, Nat.le_refl _, hq.out.symm, Kd.R_alloc HO.out _, HB.out.alloc HL.out.2 _⟩
      · have d1 : decide (x1 ≤ a1) = false := decide_eq_false c1
        have hq : Hid (((l0.take (i + 1)).filter (thereAt a1)).map (·.f0) = acc) := by
          show _ = _
          rw [HS.out, if_neg (by rw [HT2.out, decide_eq_true_eq]; dsimp only; omega), List.append_nil]
        clear HS HT2
        go_wp2
        go_roundg (l0.length - (i + 1))
        case measure => omega
        case rel => exact ⟨i + 1, acc, by first | rfl | go_num, by omega, Nat.le_refl _, hq.out.symm, Kd.R_alloc HO.out _, HB.out.alloc HL.out.2 _⟩
    · have hltz : ¬ (i : Int) < (l0.length : Int) := by omega
      have hacc : acc = (l0.filter (thereAt a1)).map (·.f0) := by rw [HA.out, List.take_of_length_le (by omega)]
      have hal : acc.length < 4611686018427387904 := by
        rw [hacc, List.length_map]
        have q1 := List.length_filter_le (thereAt a1) l0
        have q3 := HT.out
        omega
      have HACC : Hid (acc = (l0.filter (thereAt a1)).map (·.f0)) := hacc
      clear hacc HA
      have hs := sort_T w.heap.size u5 acc wr (fl_T HO.out) hal
      have HSo : Hid (type_of% hs) := hs
      have HF : Aside (wr.ownsRow w.heap.size 25 3 u5 acc.length (acc.flatMap enT) ∧ acc.length < 4611686018427387904 ∧ (msort ltT acc).length = acc.length) := ⟨fl_T HO.out, hal, (msort_perm _ _).length_eq⟩
      clear hs hal
      go_wp2_with (first | (go_at_call 29; refine HSo.out.mono ?_; rintro e w1 ⟨rfl, ho1, hg1⟩; have HO1 : Aside _ := ho1; have HG1 : Aside _ := hg1; clear ho1 hg1) | (go_at_call 37; refine (compact_T w.heap.size u5 (msort ltT acc) _ ?ho ?hl).mono ?_; (case ho => exact HO1.out); (case hl => have := HF.out; omega); rintro e w2 ⟨v2, rfl, ho2, hv2, hg2⟩; have HO2 : Aside _ := ho2; have HG2 : Aside _ := hg2; clear ho2 hg2 hv2))
      go_ret
      have b1 := below_grown HB.out HG1.out HB.out.size HF.out.1
      exact ⟨_, rfl, by rw [← HACC.out]; exact R_T HO2.out, below_grown b1 HG2.out b1.size HO1.out⟩
end Go.Proofs.Ytgjkidclpehnjaa.Pr

namespace Go.Proofs.Ytgjkidclpehnjaa.Pr
open Go.Shelf Go.RowKit Go.Lib Go.Sort Go.Proofs.Ytgjkidclpehnjaa
open Go.Proofs.YtgjkidclpehnjaaW.PrintWords Go.Proofs.YtgjkidclpehnjaaW.PrintLast Go.Proofs.YtgjkidclpehnjaaW.PrintMore

attribute [local go_sem] Oper.semAt_some

/-- What has come when m are left: the last ones, the last one first, each with its place. -/
def came (l : List Ch) (m : Nat) : List (Nat × Ch) := ((List.range' m (l.length - m)).reverse).map (fun i => (i, l[i]!))
theorem came_len (l : List Ch) (m : Nat) : (came l m).length = l.length - m := by simp [came]
theorem came_all (l : List Ch) : came l l.length = [] := by simp [came]
theorem came_step (l : List Ch) (m : Nat) (h : m < l.length) : came l m = came l (m + 1) ++ [(m, l[m]!)] := by
  unfold came
  have e : l.length - m = (l.length - (m + 1)) + 1 := by omega
  rw [e, List.range'_succ, List.reverse_cons, List.map_append]
  rfl
theorem came_snd (l : List Ch) : (came l 0).map Prod.snd = l.reverse := by
  unfold came
  rw [List.map_map, Nat.sub_zero, ← List.range_eq_range', List.map_reverse]
  congr 1
  apply List.ext_getElem
  · simp
  · intro i h1 h2
    simp at h1
    simp [h1]

/-- What a round that goes on keeps: what lay below n₀, and the iterator's box. -/
def KpB (n₀ Bs : Nat) (A B : World) : Prop := Below n₀ A B ∧ B.heap[Bs]? = A.heap[Bs]?
theorem kpB_t {n₀ Bs : Nat} {A B C : World} (h : KpB n₀ Bs A B) (k : KpB n₀ Bs B C) : KpB n₀ Bs A C := ⟨h.1.trans k.1, k.2.trans h.2⟩
theorem kpB_b {n₀ Bs : Nat} {w : World} (hn : n₀ ≤ w.heap.size) (hb : Bs < w.heap.size) (W : World) (l : Nat) (o o' : Obj) (hl : w.heap.size ≤ l) (h : W.heap[l]? = some o) (h1 : o.isCells = false) (h2 : o.isWalk = false) : KpB n₀ Bs W (W.putObj l o') :=
  ⟨belowK_b hn W l o o' hl h h1 h2, World.putObj_heap_other (by omega)⟩

def encB (x : Nat × Ch) : Array Value := #[.int .i64 (x.1 : Int), .agg #[.int .i64 x.2.f0, .bool x.2.f1.f0, .string x.2.f1.f1.f0, .string x.2.f1.f1.f1, .string x.2.f1.f1.f2]]

set_option maxRecDepth 100000 in
set_option maxHeartbeats 2000000 in
theorem backward1_in (F : Fence) (n : Nat) (h48 : F.fn 48) (hro : F.round = none) (hn : 1 ≤ n) (lp Bs : Nat) (A : Option Addr) (cap : Nat) (l : List Ch) (hbig : l.length ≤ 1073741824) (w0 : World) (hC : Kd.C k29 w0 A l.length l) (J Jx : List (Nat × Ch) → World → Prop)
    (hY : ∀ pre x W, J pre W → pre.length < l.length → YieldAt F (n - 1) Try.prog lp (encB x) W fun e W' =>
      (e = .returned (.bool true) ∧ J (pre ++ [x]) W' ∧ KpB w0.heap.size Bs W W') ∨ (e = .returned (.bool false) ∧ Jx (pre ++ [x]) W'))
    (W : World) (hW : Below w0.heap.size w0 W) (hBs : Boxed W Bs 22 (.slice A l.length cap)) (h0 : J [] W) :
    CallsIn F n Try.prog 48 #[.func (.yield lp) #[] #[], .pointer (some ⟨Bs, 0, none⟩)] W fun e W' => (∃ v, e = .returned v) ∧
      ((∃ ys, ys = came l 0 ∧ J ys W') ∨ (∃ pre, True ∧ Jx pre W')) := by
  have HC : Aside (Kd.C k29 w0 A l.length l) := hC
  clear hC
  have hbc := hBs.cell
  refine callsIn_of_wp Try.func48 rfl h48 ?_ hro
  simp only [Try.ntmps48, List.size_toArray, List.length_cons, List.length_nil, Nat.reduceAdd, Nat.reduceSub, Array.replicate_succ, Array.replicate_zero, List.push_toArray, List.append_toArray, List.nil_append, List.cons_append]
  gi_wp2
  gi_loopw [3] (fun i wr => ∃ m : Nat, m ≤ l.length ∧ i = .int .i64 ((m : Int) - 1) ∧ J (came l m) wr ∧ Aside (Below w0.heap.size w0 wr) ∧ Boxed wr Bs 22 (.slice A l.length cap))
    (fun i _ => (intOf i + 1).toNat)
  case atStart => exact ⟨l.length, Nat.le_refl _, rfl, by rw [came_all]; exact h0, hW, hBs⟩
  case round =>
    obtain ⟨m, hm, rfl, hJs, hnx, hbx⟩ := hrel
    have hbc2 := hbx.cell
    by_cases hlt : 0 < m
    · obtain ⟨k, rfl⟩ : ∃ k, m = k + 1 := ⟨m - 1, by omega⟩
      have hk : k < l.length := by omega
      obtain ⟨ad, x, hA, hx, h0, h1, h2, h3, h4⟩ := el_Ch HC.out rfl k hk
      replace h0 := cell_below hnx.out h0
      replace h1 := cell_below hnx.out h1
      replace h2 := cell_below hnx.out h2
      replace h3 := cell_below hnx.out h3
      replace h4 := cell_below hnx.out h4
      obtain rfl : l[k]! = x := by simp [hx]
      subst hA
      obtain ⟨fn, tmps, assign, body, hy, hR⟩ := hY _ (k, l[k]!) wr hJs (by rw [came_len]; omega)
      dsimp only [encB] at hy hR
      have hkz : ((k + 1 : Nat) : Int) - 1 = (k : Int) := by omega
      rw [hkz]
      have hkz2 : (k : Int) < (l.length : Int) := by omega
      have hkz0 : (0 : Int) ≤ (k : Int) := by omega
      generalize hel : l[k]! = el at *
      gi_wp2
      refine hR.mono ?_
      rintro e W3 (⟨rfl, hJ3, hk3⟩ | ⟨rfl, hJx3⟩)
      · gi_wp2
        go_roundw
        case rel => exact ⟨k, by omega, rfl, by rw [came_step l k hk, hel]; exact hJ3, hnx.out.trans hk3.1, hk3.2.trans hbx⟩
        case measure => simp [intOf]
      · gi_wp2
        refine bodyPost_ret (results_none rfl _ _ _) rfl ?_
        exact ⟨⟨_, rfl⟩, .inr ⟨_, trivial, hJx3⟩⟩
    · obtain rfl : m = 0 := by omega
      gi_wp2
      go_end0
      exact ⟨⟨_, rfl⟩, .inl ⟨_, rfl, hJs⟩⟩

set_option maxHeartbeats 1000000 in
theorem backward_in (F : Fence) (n : Nat) (h38 : F.fn 38) (hro : F.round = none) (a : Option Addr) (len cap : Nat) (w : World) :
    CallsIn F n Try.prog 38 #[.slice a len cap] w fun e w' => e = .returned (.func (.func 48) #[] #[.pointer (some ⟨w.heap.size, 0, none⟩)]) ∧ w' = w.alloc (.cells #[.slice a len cap] 22) := by
  refine callsIn_of_wp Try.func38 rfl h38 ?_ hro
  simp only [Try.ntmps38, List.size_toArray, List.length_cons, List.length_nil, Nat.reduceAdd, Nat.reduceSub, Array.replicate_succ, Array.replicate_zero, List.push_toArray, List.append_toArray, List.nil_append, List.cons_append]
  gi_wp2
  go_ret
  exact ⟨rfl, rfl⟩

theorem backward_stops (F : Fence) (n : Nat) (h48 : F.fn 48) (hro : F.round = none) (hn : 1 ≤ n) (Bs : Nat) (A : Option Addr) (cap : Nat) (l : List Ch) (hbig : l.length ≤ 1073741824) (w0 w : World) (hC : Kd.C k29 w0 A l.length l) (hw : Below w0.heap.size w0 w) (hBs : Boxed w Bs 22 (.slice A l.length cap)) :
    SeqStopsK F n Try.prog 48 #[.pointer (some ⟨Bs, 0, none⟩)] encB (KpB w0.heap.size Bs) (fun ys => ys = came l 0) (fun _ => True) l.length w := fun lp J Jx W hW _ _ hY h0 =>
  backward1_in F n h48 hro hn lp Bs A cap l hbig w0 hC J Jx hY W (hw.trans (hW.mono hw.size)) ((hW.block Bs hBs.lt).trans hBs) h0

theorem enCh_one1 (x : Ch) : ∀ v ∈ enCh x, v.oneCell' = true := by intro v hv; simp [enCh, enMu, enT] at hv; rcases hv with rfl | rfl | rfl | rfl | rfl <;> rfl
/-- A block that is a struct's box, as the loop's law wants it. -/
theorem struct_own (Bx : Nat) (cs : Array Value) (t : TypeId) {β : Type} (D : Nat) : OwnFrom D (fun (_ : β) W => W.heap[Bx]? = some (.cells cs t (0, 0))) := fun _ X Y row hs hg hr => by
  refine (hg.block Bx (Array.getElem?_eq_some_iff.1 hs).1 (fun e => ?_)).trans hs
  obtain ⟨_, o, ho, hc⟩ := hr Bx e.symm
  rw [hs] at ho
  cases ho
  cases hc

set_option maxRecDepth 100000 in
set_option maxHeartbeats 4000000 in
theorem back_in (F : Fence) (n : Nat) (h19 : F.fn 19) (h38 : F.fn 38) (h48 : F.fn 48) (hro : F.round = none) (hn : 6 ≤ n) (A0 : Option Addr) (c0 : Nat) (l0 : List Ch) (ht : l0.length ≤ 1073741824) (w : World) (hr0 : Kd.C k29 w A0 l0.length l0) :
    CallsIn F n Try.prog 19 #[.slice A0 l0.length c0] w fun e w' => ∃ v0_ : Value, e = .returned (v0_) ∧ w'.ownsRow w.heap.size 29 5 v0_ (l0.reverse.map flipCh).length ((l0.reverse.map flipCh).flatMap enCh) ∧ Below w.heap.size w w' := by
  have h1 : 1 ≤ n := by omega
  have HR0 : Aside (Kd.C k29 w A0 l0.length l0) := hr0
  clear hr0
  obtain ⟨i0, hi, hz0, hz1, hz2⟩ := info_parts info29
  have HI0 : Hid (Try.prog.info? 29 = some i0 ∧ i0.zero = some (.agg #[.int .i64 0, .bool false, .string ⟨#[]⟩, .string ⟨#[]⟩, .string ⟨#[]⟩]) ∧ i0.size = 5 ∧ i0.bytes = 64) := ⟨hi, hz0, hz1, hz2⟩
  clear hi hz0 hz1 hz2
  refine callsIn_of_wp_marks Try.func19 rfl h19 ?_ hro
  simp only [Try.ntmps19, List.size_toArray, List.length_cons, List.length_nil, Nat.reduceAdd, Nat.reduceSub, Array.replicate_succ, Array.replicate_zero, List.push_toArray, List.append_toArray, List.nil_append, List.cons_append]
  gi_wp2_with (gi_at_call 38; refine (backward_in F (n - 1) h38 hro _ _ _ _).mono ?_; rintro e w' ⟨rfl, rfl⟩)
  have bO := (Boxed.new w 22 (.slice none 0 0)).alloc (.cells #[.slice A0 l0.length c0] 22)
  have bS := Boxed.new (w.alloc (.cells #[.slice none 0 0] 22)) 22 (.slice A0 l0.length c0)
  simp only [World.size_alloc] at bS
  have hB0 : Below w.heap.size w ((w.alloc (.cells #[.slice none 0 0] 22)).alloc (.cells #[.slice A0 l0.length c0] 22)) := ((Below.refl _ w).alloc (Nat.le_refl _) _).alloc (by simp) _
  have hsz : ((w.alloc (.cells #[.slice none 0 0] 22)).alloc (.cells #[.slice A0 l0.length c0] 22)).heap.size = w.heap.size + 2 := by simp
  obtain ⟨W0, hW0⟩ : ∃ W0, (w.alloc (.cells #[.slice none 0 0] 22)).alloc (.cells #[.slice A0 l0.length c0] 22) = W0 := ⟨_, rfl⟩
  rw [hW0] at bO bS hB0 hsz ⊢
  clear hW0
  refine wpIn_rangeFunc_ownH hro h1 (gf := 48) (lb := #[.pointer (some ⟨w.heap.size + 1, 0, none⟩)]) rfl h48 (enters_of Try.func48 (by kernel_rfl) rfl)
    (backward_stops F (n - 1) h48 hro (by omega) (w.heap.size + 1) A0 c0 l0 ht w W0 HR0.out hB0 bS) kpB_t (kpB_b (by omega) (by omega)) (Below.refl _ _) (fun _ => rfl)
    (fun pre W => ((∃ v, Boxed W w.heap.size 22 v ∧ W.ownsRow w.heap.size 29 5 v ((pre.map Prod.snd).map flipCh).length (((pre.map Prod.snd).map flipCh).flatMap enCh) ∧ True) ∧ Boxed W (w.heap.size + 1) 22 (.slice A0 l0.length c0)) ∧ Below w.heap.size w W)
    (fun _ _ _ => False)
    (OwnFrom.and (OwnFrom.and (Own.from (holdsRow_own w.heap.size w.heap.size 22 29 5 (fun pre : List (Nat × Ch) => ((pre.map Prod.snd).map flipCh).length) (fun pre => ((pre.map Prod.snd).map flipCh).flatMap enCh) (fun _ _ => True)) _) (Own.from (boxed_own _ _ _) _)) (ownFrom_below (Nat.le_refl _) (by omega)))
    (fun _ _ _ _ _ hs _ _ => hs)
    ⟨⟨⟨_, bO, World.ownsRow_nil _ _ _ _, trivial⟩, bS⟩, hB0⟩
    (fun x a' W => ∃ Bx v0, w.heap.size + 1 < Bx ∧ Boxed W w.heap.size 22 v0 ∧ some Bx ≠ v0.ownBlock ∧ W.heap[Bx]? = some (.cells #[.int .i64 x.2.f0, .bool x.2.f1.f0, .string x.2.f1.f1.f0, .string x.2.f1.f1.f1, .string x.2.f1.f1.f2] 29 (0, 0)) ∧ a' = { tmps := #[.slice A0 l0.length c0, undef, .slice none 0 0, .pointer (some ⟨w.heap.size, 0, none⟩), undef, .pointer (some ⟨Bx, 0, none⟩), .slice A0 l0.length c0, .func (.func 48) #[] #[.pointer (some ⟨w.heap.size + 1, 0, none⟩)], .int .i64 (x.1 : Int), .agg #[.int .i64 x.2.f0, .bool x.2.f1.f0, .string x.2.f1.f1.f0, .string x.2.f1.f1.f1, .string x.2.f1.f1.f2], undef, undef, undef, undef, undef, undef, undef, undef, undef, undef, undef], defers := [] })
    (fun x a' _ X Y row hs hg hr => by obtain ⟨Bx, v0, h1, h4, h5, h2, h3⟩ := hs; exact ⟨Bx, v0, h1, boxed_own w.heap.size 22 (fun _ : Unit => v0) () X Y row h4 hg (fun r e => (hr r e).2), h5, struct_own Bx _ _ (β := Unit) _ () X Y row h2 hg hr, h3⟩)
    ?assign ?body ?done ?stop
  case assign =>
    rintro l pre x W K ⟨⟨⟨v, hv, hrow, _⟩, hS⟩, hB1⟩ hK
    dsimp only [encB]
    have hlt2 := hS.lt
    gi_wp2
    refine hK _ _ ((KeepsOthers.alloc _ _).from _) ⟨(Below.refl _ W).alloc hB1.size _, Below.heap_alloc _ _ _ hS.lt⟩ ⟨⟨⟨v, hv.alloc _, hrow.alloc _, trivial⟩, hS.alloc _⟩, hB1.alloc hB1.size _⟩ ⟨W.heap.size, v, hlt2, hv.alloc _, ?_, blk_new W _, rfl⟩
    intro e
    have := (hrow.lt _ e.symm).2
    omega
  case body =>
    rintro l pre x a' W hl ⟨r, hr⟩ ⟨⟨⟨v, hv, hrow, _⟩, hS⟩, hB1⟩ ⟨Bx, v0, hBx, hv0, hne, bX, rfl⟩ hlt
    obtain rfl : v = v0 := by
      have := hv.cell.symm.trans hv0.cell
      injection this
    have cx0 : W.cell? ⟨Bx, 0, none⟩ = some (.int .i64 x.2.f0) := (blk_cell bX 0).trans rfl
    have cx1 : W.cell? ⟨Bx, 1, none⟩ = some (.bool x.2.f1.f0) := (blk_cell bX 1).trans rfl
    have fx1 := blk_frozen bX 1
    have bX1 : (W.setCell ⟨Bx, 1, none⟩ (.bool (!x.2.f1.f0))).heap[Bx]? = some (.cells #[.int .i64 x.2.f0, .bool (!x.2.f1.f0), .string x.2.f1.f1.f0, .string x.2.f1.f1.f1, .string x.2.f1.f1.f2] 29 (0, 0)) := blk_put bX 1 _ rfl
    have dx0 : (W.setCell ⟨Bx, 1, none⟩ (.bool (!x.2.f1.f0))).cell? ⟨Bx, 0, none⟩ = some (.int .i64 x.2.f0) := (blk_cell bX1 0).trans rfl
    have dx1 : (W.setCell ⟨Bx, 1, none⟩ (.bool (!x.2.f1.f0))).cell? ⟨Bx, 1, none⟩ = some (.bool (!x.2.f1.f0)) := (blk_cell bX1 1).trans rfl
    have dx2 : (W.setCell ⟨Bx, 1, none⟩ (.bool (!x.2.f1.f0))).cell? ⟨Bx, 2, none⟩ = some (.string x.2.f1.f1.f0) := (blk_cell bX1 2).trans rfl
    have dx3 : (W.setCell ⟨Bx, 1, none⟩ (.bool (!x.2.f1.f0))).cell? ⟨Bx, 3, none⟩ = some (.string x.2.f1.f1.f1) := (blk_cell bX1 3).trans rfl
    have dx4 : (W.setCell ⟨Bx, 1, none⟩ (.bool (!x.2.f1.f0))).cell? ⟨Bx, 4, none⟩ = some (.string x.2.f1.f1.f2) := (blk_cell bX1 4).trans rfl
    have hgX : W.grownBy (W.setCell ⟨Bx, 1, none⟩ (.bool (!x.2.f1.f0))) (some Bx) := ⟨rfl, rfl, rfl, (KeepsWalks.setCell W _ _).size, fun k _ hk => Below.heap_setCell _ _ _ k (fun e => hk (by rw [e]))⟩
    have hv1 : Boxed (W.setCell ⟨Bx, 1, none⟩ (.bool (!x.2.f1.f0))) w.heap.size 22 v := hv.kept hgX (by intro e; injection e with e; omega)
    have hS1 : Boxed (W.setCell ⟨Bx, 1, none⟩ (.bool (!x.2.f1.f0))) (w.heap.size + 1) 22 (.slice A0 l0.length c0) := hS.kept hgX (by intro e; injection e with e; omega)
    have hrow1 := hrow.kept hgX (by
      rcases hrow.2 with ⟨h, _⟩ | _
      · exact .inl (by rw [h]; rfl)
      · exact .inr (fun e => hne e.symm))
    have hB2 : Below w.heap.size w (W.setCell ⟨Bx, 1, none⟩ (.bool (!x.2.f1.f0))) := hB1.setCell (p := ⟨Bx, 1, none⟩) (by show w.heap.size ≤ Bx; omega) _
    have hlen : ((pre.map Prod.snd).map flipCh).length = pre.length := by simp
    have c1 := hv1.cell
    have HX : Aside (pre.length < l0.length ∧ l0.length ≤ 1073741824) := ⟨hlt, ht⟩
    obtain ⟨W1, hW1⟩ : ∃ W1, W1 = W.setCell ⟨Bx, 1, none⟩ (.bool (!x.2.f1.f0)) := ⟨_, rfl⟩
    gi_wp2_with (gi_at_builtin; refine wpListIn_append_own _ rfl _ _ 22 rfl w.heap.size 29 i0 (.agg #[.int .i64 0, .bool false, .string ⟨#[]⟩, .string ⟨#[]⟩, .string ⟨#[]⟩]) 5 64 Try.underlying22 HI0.out.1 HI0.out.2.1 HI0.out.2.2.1 HI0.out.2.2.2 rfl (by decide) _ _ _ rfl (hrow1.alloc _) ⟨(W.setCell ⟨Bx, 1, none⟩ (.bool (!x.2.f1.f0))).heap.size, 0, none⟩ 1 1 (enCh (flipCh x.2)) (by first | rfl | (go_simp; done) | (go_simp; rfl)) rfl (World.news_of_block (blk_new _ _)) (enCh_one1 _) (by have := HX.out; rw [hlen]; simp [maxLen]; omega) (by have := HX.out; rw [hlen]; omega) (by have := hB2.size; simp at *; omega) ?_; intro v' w1 hown' hgrow _; obtain ⟨g', cap', rfl⟩ := ownsRow_succ hown'; obtain ⟨hv2, hv3, hr2, hk2, hb2⟩ := hv1.appended (by decide) hrow1 hB2.size (Nat.le_refl _) hown' hgrow; have hc1 := hv2.cell; have hf1 := hv2.frozen)
    have hS3 := ((hS1.alloc _).kept hgrow (hS1.not_row (by decide) hrow1)).other (B' := w.heap.size) (by omega) (Value.slice (some ⟨g', 0, none⟩) (pre.length + 1) cap')
    simp only [List.length_map] at hv3 hr2 hk2 hb2
    refine ⟨((KeepsOthers.setCell _ _ _).trans hk2).from _, ⟨((Below.refl _ W).setCell (p := ⟨Bx, 1, none⟩) (by show w.heap.size ≤ Bx; omega) _).trans hb2, hS3.trans hS.symm⟩, ⟨⟨⟨_, hv3, ?_, trivial⟩, hS3⟩, hB2.trans hb2⟩⟩
    simpa [List.flatMap_append] using hr2
  case done =>
    rintro D ys W hD rfl ⟨⟨⟨v, hv, hrow, _⟩, hS⟩, hB⟩ hK
    have hc := hv.cell
    gi_wp2
    refine ⟨by simp, .inl ⟨_, _, rfl, run_takeDeferred hK, ?_⟩⟩
    rw [came_snd] at hrow
    exact ⟨_, results_tmp rfl _ _ _, v, rfl, ownsRow_putObj hrow _ hK rfl, hB.trans (belowK_b (w := w) (Nat.le_refl _) W D _ _ (by omega) hK rfl rfl)⟩
  case stop =>
    rintro D c pre W _ _ h _
    exact h.elim

theorem watch_Back.calls (A0 : Option Addr) (c0 : Nat) (l0 : List Ch) (r : List Ch) (w : World) (hr0 : Kd.C k29 w A0 l0.length l0) (hc0 : l0.length ≤ c0) (h : watch_Back.f l0 = some r) :
    Calls Try.prog 19 #[.slice A0 l0.length c0] w fun e w' => ∃ v0_ : Value, e = .returned (v0_) ∧ Kd.R k29 29 w' w.heap.size (fun _ => True) v0_ r ∧ Below w.heap.size w w' := by
  obtain ⟨ht, rfl⟩ : l0.length ≤ 1073741824 ∧ l0.reverse.map flipCh = r := by
    unfold watch_Back.f tiny at h
    split at h
    · rename_i h1
      exact ⟨of_decide_eq_true h1, Option.some.inj h⟩
    · cases h
  refine ((callsIn_wide (n := 6)).1 (back_in Fence.wide 6 trivial trivial trivial rfl (by omega) A0 c0 l0 ht w hr0)).mono ?_
  rintro e w' ⟨v, rfl, ho, hb⟩
  exact ⟨v, rfl, R_Ch ho, hb⟩
end Go.Proofs.Ytgjkidclpehnjaa.Pr

namespace Go.Proofs.Ytgjkidclpehnjaa.Pr
open Go.Shelf Go.RowKit Go.Lib Go.Sort Go.Proofs.Ytgjkidclpehnjaa
open Go.Proofs.YtgjkidclpehnjaaW.PrintWords Go.Proofs.YtgjkidclpehnjaaW.PrintLast Go.Proofs.YtgjkidclpehnjaaW.PrintMore

/-- The world between two calls of the closure: its three boxes, and what it has gathered. -/
def ChSt (B : Nat) (fr to_ : Int) (w0 : World) (acc : List Ch) (w : World) : Prop :=
  ∃ v, w.cell? ⟨B, 0, none⟩ = some (.int .i64 fr) ∧ w.cell? ⟨B + 1, 0, none⟩ = some (.int .i64 to_) ∧ w.cell? ⟨B + 2, 0, none⟩ = some v ∧ w.frozen? ⟨B + 2, 0, none⟩ = false ∧ Kd.R k29 29 w B (fun k => B + 3 ≤ k) v acc ∧ Below B w0 w ∧ B + 3 ≤ w.heap.size

theorem app_Ch_ok {ops : Array Oper} {rest : List Oper} {o : Oper} {a : Act} {Q : Exit → Act → World → Prop} {w0 W : World} (base : Nat) (hgd : o.guard = none) (s x : Operand) (ho : o.op = .call { callee := .builtin .append, args := #[s, x], argTypes := #[22, 22] })
    (v : Value) (xs : List Ch) (p : Ch) (ok : Nat → Prop) (hok : ∀ k, W.heap.size ≤ k → ok k) (hs : a.eval s = v) (hx : a.eval x = .slice (some ⟨W.heap.size, 0, none⟩) 1 1) (HO : Kd.R k29 29 W base ok v xs) (HB : Below base w0 W) (hbase : base ≤ W.heap.size) (hl : xs.length < 4294967296)
    (h : ∀ v1 w1, Kd.R k29 29 w1 base ok v1 (xs ++ [p]) → Below base w0 w1 → W.grownBy w1 v.ownBlock → (v1.ownBlock = v.ownBlock ∨ ∃ b, v1.ownBlock = some b ∧ W.heap.size ≤ b) → wpList Try.prog ops Q rest (a.put o.dst v1) w1) :
    wpList Try.prog ops Q (o :: rest) a (W.alloc (.cells #[.int .i64 p.f0, .bool p.f1.f0, .string p.f1.f1.f0, .string p.f1.f1.f1, .string p.f1.f1.f2] 29)) :=
  Kd.R_append k29 (w0 := w0) base hgd s x 22 29 _ _ ho Try.underlying22 info29 rfl (by decide) (by omega) v xs p [.int .i64 p.f0, .bool p.f1.f0, .string p.f1.f1.f0, .string p.f1.f1.f1, .string p.f1.f1.f2] ok (fun _ => False) hs hx (k29_mkM _ _ _ p) (fun _ hk => hk.elim) hok HO HB hbase (by omega) h

set_option maxHeartbeats 4000000 in
set_option maxRecDepth 100000 in
theorem add_walk (B : Nat) (fr to_ rev : Int) (del : Bool) (t : T) (acc : List Ch) (w0 w : World) (S : ChSt B fr to_ w0 acc w) (hl : acc.length < 4294967296) :
    Calls Try.prog 26 #[.int .i64 rev, .bool del, .agg #[.string t.f0, .string t.f1, .string t.f2], .pointer (some ⟨B, 0, none⟩), .pointer (some ⟨B + 1, 0, none⟩), .pointer (some ⟨B + 2, 0, none⟩)] w fun e w' => e = .returned (.tuple #[]) ∧ ChSt B fr to_ w0 (acc ++ chIf fr to_ rev del t) w' ∧ ∀ g cells, B + 3 ≤ g → w.heap[g]? = some (.cells cells 51 (0, 0)) → w'.heap[g]? = some (.cells cells 51 (0, 0)) := by
  obtain ⟨v, h4, h5, h7, f7, hO, hB, hsz⟩ := S
  obtain ⟨t0, t1, t2⟩ := t
  have HR : Hid (chIf fr to_ rev del ⟨t0, t1, t2⟩ = if fr < rev ∧ rev ≤ to_ then [⟨rev, ⟨del, ⟨t0, t1, t2⟩⟩⟩] else []) := rfl
  generalize chIf fr to_ rev del ⟨t0, t1, t2⟩ = rr at HR ⊢
  have HO : Aside (Kd.R k29 29 w B (fun k => B + 3 ≤ k) v acc) := hO
  have HB : Aside (Below B w0 w ∧ B + 3 ≤ w.heap.size ∧ acc.length < 4294967296) := ⟨hB, hsz, hl⟩
  have b0 : B < w.heap.size := by omega
  have b1 : B + 1 < w.heap.size := by omega
  have b2 : B + 2 < w.heap.size := by omega
  clear hO hB hsz hl
  dsimp only
  by_cases c1 : fr < rev
  · have d1 : decide (fr < rev) = true := decide_eq_true c1
    by_cases c2 : rev ≤ to_
    · have d2 : decide (rev ≤ to_) = true := decide_eq_true c2
      obtain rfl : rr = [⟨rev, ⟨del, ⟨t0, t1, t2⟩⟩⟩] := by rw [HR.out, if_pos ⟨c1, c2⟩]
      go_enter Try.func26, Try.ntmps26
      have hne : some (B + 2) ≠ v.ownBlock := fun e => by have := HO.out.1 _ e.symm; omega
      have hne0 : some B ≠ v.ownBlock := fun e => by have := HO.out.1 _ e.symm; omega
      have hne1 : some (B + 1) ≠ v.ownBlock := fun e => by have := HO.out.1 _ e.symm; omega
      have HN : Aside (some (B + 2) ≠ v.ownBlock ∧ some B ≠ v.ownBlock ∧ some (B + 1) ≠ v.ownBlock) := ⟨hne, hne0, hne1⟩
      have H45 : Aside (w.cell? ⟨B, 0, none⟩ = some (.int .i64 fr) ∧ w.cell? ⟨B + 1, 0, none⟩ = some (.int .i64 to_) ∧ w.cell? ⟨B + 2, 0, none⟩ = some v ∧ w.frozen? ⟨B + 2, 0, none⟩ = false) := ⟨h4, h5, h7, f7⟩
      clear hne hne0 hne1
      go_wp2_with (at_builtin; refine app_Ch_ok (w0 := w0) B rfl (.tmp 17) (.tmp 23) rfl v acc ⟨rev, ⟨del, ⟨t0, t1, t2⟩⟩⟩ (fun k => B + 3 ≤ k) ?aF rfl (by first | (go_simp; done) | (go_simp; rfl)) ?aO ?aB ?aS HB.out.2.2 ?_; (case aF => intro k hk; have := HB.out.2.1; simp at hk; omega); (case aO => exact Kd.R_alloc HO.out _); (case aB => exact HB.out.1.alloc (by have := HB.out.2.1; omega) _); (case aS => have := HB.out.2.1; simp; omega); intro v1 w1 ho hb hg1 hat; obtain ⟨g', cap', rfl⟩ := Go.Joins.ownsRow_form (fl_Ch ho) (by simp); have e7 : w1.cell? ⟨B + 2, 0, none⟩ = some v := (hg1.cell_far _ (by have := HB.out.2.1; simp; omega) HN.out.1).trans ((Lib.cell?_alloc_some _ H45.out.2.2.1)); have f7' : w1.frozen? ⟨B + 2, 0, none⟩ = false := (hg1.frozen_far _ (by have := HB.out.2.1; simp; omega) HN.out.1).trans ((World.frozen?_of_block (Below.heap_alloc _ _ _ (by have := HB.out.2.1; simp; omega))).trans H45.out.2.2.2); have e4 : Aside (w1.cell? ⟨B, 0, none⟩ = some (.int .i64 fr) ∧ w1.cell? ⟨B + 1, 0, none⟩ = some (.int .i64 to_)) := ⟨(hg1.cell_far _ (by have := HB.out.2.1; simp; omega) HN.out.2.1).trans (Lib.cell?_alloc_some _ H45.out.1), (hg1.cell_far _ (by have := HB.out.2.1; simp; omega) HN.out.2.2).trans (Lib.cell?_alloc_some _ H45.out.2.1)⟩; have HO1 : Aside _ := ho; have HB1 : Aside _ := hb; have HG1 : Aside _ := hg1; clear ho hb hg1 hat)
      go_end0
      refine ⟨rfl, ⟨_, ?_, ?_, World.cell?_setCell_same' _ _ _ (by rw [e7]; rfl), by rw [World.frozen?_setCell]; exact f7', by have q := Kd.R_far (p := ⟨B + 2, 0, none⟩) HO1.out (fun k hk => by show k ≠ B + 2; omega) (.slice (some ⟨g', 0, none⟩) (acc.length + 1) cap'); rw [List.length_append] at q; exact q, HB1.out.setCell (by show B ≤ B + 2; omega) _, ?_⟩, ?_⟩
      · rw [World.cell?_setCell_far _ _ _ _ (by simp)]; exact e4.out.1
      · rw [World.cell?_setCell_far _ _ _ _ (by simp)]; exact e4.out.2
      · have := HG1.out.size; have := HB.out.2.1; simp at *; omega
      · intro g cells hg hc
        have hlt : g < w.heap.size := (Array.getElem?_eq_some_iff.1 hc).1
        rw [Below.heap_setCell _ _ _ _ (by show g ≠ B + 2; omega), HG1.out.block g (by simp; omega) (Kd.R_ne HO.out hc (by decide)), Below.heap_alloc _ _ _ hlt]
        exact hc
    · have d2 : decide (rev ≤ to_) = false := decide_eq_false c2
      obtain rfl : rr = [] := by rw [HR.out, if_neg (fun h => c2 h.2)]
      have S0 : Aside (ChSt B fr to_ w0 acc (w.alloc (Obj.cells #[.string t0, .string t1, .string t2] 25))) := ⟨v, Lib.cell?_alloc_some _ h4, Lib.cell?_alloc_some _ h5, Lib.cell?_alloc_some _ h7, (World.frozen?_of_block (Below.heap_alloc _ _ _ (by show B + 2 < _; omega))).trans f7, Kd.R_alloc HO.out _, HB.out.1.alloc (by omega) _, by have := HB.out.2.1; simp; omega⟩
      go_enter Try.func26, Try.ntmps26
      go_wp2
      go_end0
      exact ⟨rfl, S0.out, fun g cells _ hc => (Below.heap_alloc _ _ _ (Array.getElem?_eq_some_iff.1 hc).1).trans hc⟩
  · have d1 : decide (fr < rev) = false := decide_eq_false c1
    obtain rfl : rr = [] := by rw [HR.out, if_neg (fun h => c1 h.1)]
    have S0 : Aside (ChSt B fr to_ w0 acc (w.alloc (Obj.cells #[.string t0, .string t1, .string t2] 25))) := ⟨v, Lib.cell?_alloc_some _ h4, Lib.cell?_alloc_some _ h5, Lib.cell?_alloc_some _ h7, (World.frozen?_of_block (Below.heap_alloc _ _ _ (by show B + 2 < _; omega))).trans f7, Kd.R_alloc HO.out _, HB.out.1.alloc (by omega) _, by have := HB.out.2.1; simp; omega⟩
    go_enter Try.func26, Try.ntmps26
    go_wp2
    go_end0
    exact ⟨rfl, S0.out, fun g cells _ hc => (Below.heap_alloc _ _ _ (Array.getElem?_eq_some_iff.1 hc).1).trans hc⟩

theorem ChSt.alloc {B : Nat} {fr to_ : Int} {w0 w : World} {acc : List Ch} (S : ChSt B fr to_ w0 acc w) (o : Obj) : ChSt B fr to_ w0 acc (w.alloc o) := by
  obtain ⟨v, h4, h5, h7, f7, hO, hB, hsz⟩ := S
  exact ⟨v, Lib.cell?_alloc_some _ h4, Lib.cell?_alloc_some _ h5, Lib.cell?_alloc_some _ h7, (World.frozen?_of_block (Below.heap_alloc _ _ _ (by show B + 2 < _; omega))).trans f7, Kd.R_alloc hO _, hB.alloc (by omega) _, by simp; omega⟩
theorem chOf_len (fr to_ : Int) (r : Ro) : (chOf fr to_ r).length ≤ 2 := by
  unfold chOf chIf
  split
  · simp
  · split <;> split <;> simp <;> split <;> simp
theorem flat_len (fr to_ : Int) : ∀ l : List Ro, (l.flatMap (chOf fr to_)).length ≤ 2 * l.length
  | [] => by simp
  | r :: l => by
    rw [List.flatMap_cons, List.length_append, List.length_cons]
    have := chOf_len fr to_ r
    have := flat_len fr to_ l
    omega

set_option maxHeartbeats 4000000 in
set_option maxRecDepth 100000 in
theorem watch_Changes.calls (A0 : Option Addr) (c0 : Nat) (l0 : List Ro) (a1 : Int) (a2 : Int) (r : List Ch) (w : World) (hr0 : Kd.C k51 w A0 l0.length l0) (hc0 : l0.length ≤ c0) (h : watch_Changes.f l0 a1 a2 = some r) :
    Calls Try.prog 8 #[.slice A0 l0.length c0, .int .i64 a1, .int .i64 a2] w fun e w' => ∃ v0_ : Value, e = .returned (v0_) ∧ Kd.R k29 29 w' w.heap.size (fun _ => True) v0_ r ∧ Below w.heap.size w w' := by
  obtain ⟨ht, rfl⟩ : l0.length ≤ 1073741824 ∧ msort ltCh (l0.flatMap (chOf a1 a2)) = r := by
    unfold watch_Changes.f tiny at h
    split at h
    · rename_i h1
      exact ⟨of_decide_eq_true h1, Option.some.inj h⟩
    · cases h
  have HR0 : Aside (Kd.C k51 w A0 l0.length l0) := hr0
  clear hr0 hc0 h
  go_enter Try.func8, Try.ntmps8
  go_wp2
  obtain ⟨B, hB⟩ : ∃ B, B = w.heap.size := ⟨_, rfl⟩
  have S0 : Aside (ChSt B a1 a2 w [] (((w.alloc (Obj.cells #[.int .i64 a1] 2)).alloc (Obj.cells #[.int .i64 a2] 2)).alloc (Obj.cells #[.slice none 0 0] 22))) := by
    subst hB
    show ChSt _ _ _ _ _ _
    unfold ChSt
    refine ⟨.slice none 0 0, ?_, ?_, ?_, ?_, Kd.R_nil _ _ _ _ _, (((Below.refl _ w).alloc (Nat.le_refl _) _).alloc (by simp) _).alloc (by simp; omega) _, by simp⟩
    · rw [World.cell?_alloc_past _ _ _ (by simp; omega), World.cell?_alloc_past _ _ _ (by simp), World.cell?_alloc_at _ _ _ _ rfl]; rfl
    · rw [World.cell?_alloc_past _ _ _ (by simp), World.cell?_alloc_at _ _ _ _ (by simp)]; rfl
    · rw [World.cell?_alloc_at _ _ _ _ (by simp)]; rfl
    · have h := blk_frozen (blk_new ((w.alloc (Obj.cells #[.int .i64 a1] 2)).alloc (Obj.cells #[.int .i64 a2] 2)) (Obj.cells #[.slice none 0 0] 22)) 0
      simpa using h
  rw [← hB]
  have HBe : Hid (B = w.heap.size) := hB
  clear hB
  go_loopg [14] l0.length (fun gk s14 wr => ∃ (i : Nat) (acc : List Ch), s14 = .int .i64 i ∧ i ≤ l0.length ∧ l0.length - i ≤ gk ∧ Hid (acc = (l0.take i).flatMap (chOf a1 a2)) ∧ Aside (ChSt B a1 a2 w acc wr))
  case atStart => exact ⟨0, [], rfl, Nat.zero_le _, Nat.le_refl _, rfl, S0⟩
  case round =>
    clear S0
    obtain ⟨i, acc, rfl, hi, hg, HA, S1⟩ := hrel
    by_cases hlt : i < l0.length
    · have hltz : (i : Int) < (l0.length : Int) := by omega
      obtain ⟨ad, x, hA, hx, h0, h1, h2, h3, h4⟩ := el_Ro HR0.out rfl i hlt
      have HBl : Below B w wr := by obtain ⟨v, _, _, _, _, _, hB, _⟩ := S1.out; exact hB
      rw [HBe.out] at HBl
      replace h0 := cell_below HBl h0
      replace h1 := cell_below HBl h1
      replace h2 := cell_below HBl h2
      replace h3 := cell_below HBl h3
      replace h4 := cell_below HBl h4
      clear HBl
      have hal : acc.length + 4 < 4294967296 := by
        rw [HA.out]
        have q1 := flat_len a1 a2 (l0.take i)
        have q2 := List.length_take_le i l0
        omega
      have HS : Hid ((l0.take (i + 1)).flatMap (chOf a1 a2) = acc ++ chOf a1 a2 x) := by
        show _ = _
        rw [HA.out, take_step l0 i x hx, List.flatMap_append]
        simp
      have HL : Aside (acc.length + 4 < 4294967296) := hal
      have HT2 : Hid (chOf a1 a2 x = if x.f2 ≠ 0 ∧ x.f2 ≤ x.f1 then [] else chIf a1 a2 x.f1 false x.f0 ++ (if x.f2 ≠ 0 then chIf a1 a2 x.f2 true x.f0 else [])) := rfl
      clear HA hal hx
      subst hA
      obtain ⟨⟨t0, t1, t2⟩, x1, x2⟩ := x
      dsimp only at h0 h1 h2 h3 h4
      have S2 : Aside (ChSt B a1 a2 w acc (wr.alloc (Obj.cells #[.string t0, .string t1, .string t2, .int .i64 x1, .int .i64 x2] 51)) ∧ B + 3 ≤ wr.heap.size) := ⟨S1.out.alloc _, by obtain ⟨v, _, _, _, _, _, _, h⟩ := S1.out; exact h⟩
      by_cases c1 : x2 = 0
      · have d1 : (x2 != 0) = false := by simp [c1]
        have hq : Hid ((l0.take (i + 1)).flatMap (chOf a1 a2) = acc ++ chIf a1 a2 x1 false ⟨t0, t1, t2⟩) := by
          show _ = _
          rw [HS.out, HT2.out, if_neg (by simp [c1]), if_neg (by simp [c1]), List.append_nil]
        clear HS HT2
        subst c1
        go_wp2_with (go_at_call 26; refine (add_walk B a1 a2 x1 false ⟨t0, t1, t2⟩ acc w _ S2.out.1 (by have := HL.out; omega)).mono ?_; rintro e w1 ⟨rfl, S3, hfr⟩; have S4 : Aside _ := S3; have hbk := hfr wr.heap.size _ S2.out.2 (blk_new wr _); have e4 : w1.cell? ⟨wr.heap.size, 4, none⟩ = some (.int .i64 0) := (blk_cell hbk 4).trans rfl; clear S3 hfr hbk)
        go_roundg (l0.length - (i + 1))
        case measure => omega
        case rel => exact ⟨i + 1, _, by first | rfl | go_num, by omega, Nat.le_refl _, hq.out.symm, S4.out⟩
      · have d1 : (x2 != 0) = true := by simp [c1]
        by_cases c2 : x2 ≤ x1
        · have d2 : decide (x2 ≤ x1) = true := decide_eq_true c2
          have hq : Hid ((l0.take (i + 1)).flatMap (chOf a1 a2) = acc) := by
            show _ = _
            rw [HS.out, HT2.out, if_pos ⟨c1, c2⟩, List.append_nil]
          clear HS HT2
          go_wp2
          go_roundg (l0.length - (i + 1))
          case measure => omega
          case rel => exact ⟨i + 1, acc, by first | rfl | go_num, by omega, Nat.le_refl _, hq.out.symm, S2.out.1⟩
        · have d2 : decide (x2 ≤ x1) = false := decide_eq_false c2
          have hq : Hid ((l0.take (i + 1)).flatMap (chOf a1 a2) = (acc ++ chIf a1 a2 x1 false ⟨t0, t1, t2⟩) ++ chIf a1 a2 x2 true ⟨t0, t1, t2⟩) := by
            show _ = _
            rw [HS.out, HT2.out, if_neg (fun h => c2 h.2), if_pos c1, List.append_assoc]
          clear HS HT2
          have HC1 : Hid ((acc ++ chIf a1 a2 x1 false ⟨t0, t1, t2⟩).length < 4294967296) := by
            have := HL.out
            have h9 : (chIf a1 a2 x1 false ⟨t0, t1, t2⟩).length ≤ 1 := by unfold chIf; split <;> simp
            show _ < _
            rw [List.length_append]; omega
          go_wp2_with (go_at_call 26; first | (refine (add_walk B a1 a2 x1 false ⟨t0, t1, t2⟩ acc w _ S2.out.1 (by have := HL.out; omega)).mono ?_; clear S2; rintro e w1 ⟨rfl, S3, hfr⟩; have S4 : Aside _ := S3; have hbk := hfr wr.heap.size _ (by obtain ⟨v, _, _, _, _, _, _, h⟩ := S1.out; exact h) (blk_new wr _); have e0 : w1.cell? ⟨wr.heap.size, 0, none⟩ = some (.string t0) := (blk_cell hbk 0).trans rfl; have e1 : w1.cell? ⟨wr.heap.size, 1, none⟩ = some (.string t1) := (blk_cell hbk 1).trans rfl; have e2 : w1.cell? ⟨wr.heap.size, 2, none⟩ = some (.string t2) := (blk_cell hbk 2).trans rfl; have e4 : w1.cell? ⟨wr.heap.size, 4, none⟩ = some (.int .i64 x2) := (blk_cell hbk 4).trans rfl; clear S3 hfr hbk) | (refine (add_walk B a1 a2 x2 true ⟨t0, t1, t2⟩ (acc ++ chIf a1 a2 x1 false ⟨t0, t1, t2⟩) w _ S4.out HC1.out).mono ?_; rintro e w2 ⟨rfl, S5, hfr⟩; have S6 : Aside _ := S5; clear S5 hfr))
          go_roundg (l0.length - (i + 1))
          case measure => omega
          case rel => exact ⟨i + 1, _, by first | rfl | go_num, by omega, Nat.le_refl _, hq.out.symm, S6.out⟩
    · have hltz : ¬ (i : Int) < (l0.length : Int) := by omega
      have HACC : Hid (acc = l0.flatMap (chOf a1 a2)) := by show _ = _; rw [HA.out, List.take_of_length_le (by omega)]
      have hal : acc.length < 4611686018427387904 := by
        rw [HACC.out]
        have q1 := flat_len a1 a2 l0
        omega
      clear HA
      obtain ⟨v, h4, h5, h7, f7, hO, hB, hsz⟩ := S1.out
      have hown := fl_Ch hO
      have hs := sort_Ch B v acc wr hown hal
      have hne : some (B + 2) ≠ v.ownBlock := fun e => by have := hO.1 _ e.symm; omega
      have HSo : Hid (type_of% hs) := hs
      have HF : Aside (wr.ownsRow B 29 5 v acc.length (acc.flatMap enCh) ∧ Below B w wr ∧ B + 3 ≤ wr.heap.size ∧ some (B + 2) ≠ v.ownBlock ∧ wr.cell? ⟨B + 2, 0, none⟩ = some v) := ⟨hown, hB, hsz, hne, h7⟩
      have hsz2 : B + 2 < wr.heap.size := by omega
      have h7' : wr.cell? ⟨B + 1 + 1, 0, none⟩ = some v := h7
      clear hs hal h4 h5 h7 f7 hO hB hsz hown hne S1
      go_wp2_with (go_at_call 27; refine HSo.out.mono ?_; rintro e w1 ⟨rfl, ho1, hg1⟩; have e7 : w1.cell? ⟨B + 1 + 1, 0, none⟩ = some v := (hg1.cell_far _ hsz2 HF.out.2.2.2.1).trans HF.out.2.2.2.2; have HO1 : Aside _ := ho1; have HG1 : Aside _ := hg1; clear ho1 hg1)
      go_ret
      refine ⟨_, rfl, ?_, ?_⟩
      · rw [← HACC.out, ← HBe.out]; exact R_Ch HO1.out
      · rw [← HBe.out]; exact below_grown HF.out.2.1 HG1.out (by have := HF.out.2.2.1; omega) HF.out.1
end Go.Proofs.Ytgjkidclpehnjaa.Pr

namespace Go.Proofs.Ytgjkidclpehnjaa.Pr
open Go.Shelf Go.RowKit Go.Lib Go.Sort Go.Proofs.Ytgjkidclpehnjaa
open Go.Proofs.YtgjkidclpehnjaaW.PrintWords Go.Proofs.YtgjkidclpehnjaaW.PrintLast Go.Proofs.YtgjkidclpehnjaaW.PrintMore

set_option maxHeartbeats 1000000 in
set_option maxRecDepth 100000 in
theorem index_none (A : Option Addr) (c : Nat) (t0 t1 t2 : ByteArray) (w : World) : Calls Try.prog 46 #[.slice A 0 c, .agg #[.string t0, .string t1, .string t2]] w fun e w' => e = .returned (.int .i64 (-1)) ∧ Below w.heap.size w w' := by
  go_enter Try.func46, Try.ntmps46
  go_wp2
  go_loopg [8] 0 (fun _ s8 wr => s8 = .int .i64 0 ∧ wr = w.alloc (Obj.cells #[.string t0, .string t1, .string t2] 25))
  case atStart => exact ⟨rfl, rfl⟩
  case round =>
    obtain ⟨rfl, rfl⟩ := hrel
    go_wp2
    go_ret
    exact ⟨rfl, (Below.refl _ _).alloc (Nat.le_refl _) _⟩
set_option maxHeartbeats 1000000 in
set_option maxRecDepth 100000 in
theorem contains_none (A : Option Addr) (c : Nat) (t0 t1 t2 : ByteArray) (w : World) : Calls Try.prog 32 #[.slice A 0 c, .agg #[.string t0, .string t1, .string t2]] w fun e w' => e = .returned (.bool false) ∧ Below w.heap.size w w' := by
  go_enter Try.func32, Try.ntmps32
  go_wp2_with (go_at_call 46; refine (index_none _ _ _ _ _ _).mono ?_; rintro e w' ⟨rfl, hb⟩)
  go_ret
  exact ⟨rfl, ((Below.refl _ w).alloc (Nat.le_refl _) _).trans (hb.mono (by simp))⟩

/-- slices.Contains at tuples. -/
theorem contains_T (A1 : Option Addr) (c1 : Nat) (l1 : List T) (w : World) (hr : Kd.C k25 w A1 l1.length l1) (t : T) :
    Calls Try.prog 32 #[.slice A1 l1.length c1, .agg #[.string t.f0, .string t.f1, .string t.f2]] w fun e w' => e = .returned (.bool (decide (t ∈ l1))) ∧ Below w.heap.size w w' := by
  rcases Nat.eq_zero_or_pos l1.length with h0 | h0
  · obtain rfl : l1 = [] := List.eq_nil_of_length_eq_zero h0
    refine (contains_none A1 c1 t.f0 t.f1 t.f2 w).mono ?_
    rintro e w' ⟨rfl, hb⟩
    exact ⟨by simp, hb⟩
  · obtain ⟨hn, hbig, hc0⟩ := hr
    obtain ⟨ad, rfl, hc⟩ := hc0 h0
    clear hc0
    have hspot : ad.spot = none := by
      obtain ⟨c, hl, hK, hcell⟩ := hc 0 l1[0] (by simp [h0])
      have h1 := k25_open hK
      have h2 := hcell 0 _ (by rw [h1]; rfl)
      cases hs : ad.spot with
      | none => rfl
      | some s =>
        exfalso
        have : (ad.add (0 * k25.sz + 0)).spot = some s := by simp [Addr.add, hs]
        unfold World.cell? at h2
        rw [this] at h2
        split at h2 <;> simp at h2
    obtain ⟨b, off, sp⟩ := ad
    obtain rfl : sp = none := hspot
    have h := AnyQ.slices_Contains Try.hasTuple 3 Try.isAgg25 Try.sizeOf25 enT enT_len (fun x y => decide (x = y)) eql_T b off l1.length c1 l1 t w (Nat.le_refl _) hbig (by
      intro j hj i v hv
      obtain ⟨c, hl, hK, hcell⟩ := hc j l1[j] (by simp [hj])
      have h1 := k25_open hK
      have h2 := hcell i v (by
        rw [h1]
        have e : l1[j]! = l1[j] := by simp [hj]
        rw [e] at hv
        exact hv)
      rw [Addr.add_lit] at h2
      rw [Nat.add_assoc]
      exact h2)
    refine h.mono ?_
    rintro e w' ⟨rfl, hb⟩
    refine ⟨?_, hb⟩
    rw [List.take_length]
    congr 2
    rw [Bool.eq_iff_iff]
    simp
def netA (l0 l1 : List T) : List Mu := (l0.filter (fun t => decide (t ∉ l1))).map (fun t => (⟨true, t⟩ : Mu))
theorem netA_len (l0 l1 : List T) : (netA l0 l1).length ≤ l0.length := by unfold netA; rw [List.length_map]; exact List.length_filter_le _ _
theorem net_eq (a b : List T) : netL a b = netA a b ++ (b.filter (fun t => decide (t ∉ a))).map (fun t => (⟨false, t⟩ : Mu)) := rfl
theorem net_same (a b : List T) : ∀ x ∈ netL a b, ∀ y ∈ netL a b, x.f1 = y.f1 → x = y := by
  intro x hx y hy h
  unfold netL at hx hy
  rw [List.mem_append, List.mem_map, List.mem_map] at hx hy
  rcases hx with ⟨t, ht, rfl⟩ | ⟨t, ht, rfl⟩ <;> rcases hy with ⟨u, hu, rfl⟩ | ⟨u, hu, rfl⟩ <;> dsimp only at h <;> subst h
  · rfl
  · simp at ht hu; exact absurd hu.1 ht.2
  · simp at ht hu; exact absurd ht.1 hu.2
  · rfl

set_option maxHeartbeats 4000000 in
set_option maxRecDepth 100000 in
theorem watch_Net.calls (A0 : Option Addr) (c0 : Nat) (l0 : List T) (A1 : Option Addr) (c1 : Nat) (l1 : List T) (r : List Mu) (w : World) (hr0 : Kd.C k25 w A0 l0.length l0) (hc0 : l0.length ≤ c0) (hr1 : Kd.C k25 w A1 l1.length l1) (hc1 : l1.length ≤ c1) (h : watch_Net.f l0 l1 = some r) :
    Calls Try.prog 16 #[.slice A0 l0.length c0, .slice A1 l1.length c1] w fun e w' => ∃ v0_ : Value, e = .returned (v0_) ∧ Kd.R k27 27 w' w.heap.size (fun _ => True) v0_ r ∧ Below w.heap.size w w' := by
  obtain ⟨ht0, ht1, rfl⟩ : l0.length ≤ 1073741824 ∧ l1.length ≤ 1073741824 ∧ compactL (msort ltMu (netL l0 l1)) = r := by
    unfold watch_Net.f tiny at h
    split at h
    · split at h
      · rename_i h1 h2
        exact ⟨of_decide_eq_true h1, of_decide_eq_true h2, Option.some.inj h⟩
      · cases h
    · cases h
  have HR0 : Aside (Kd.C k25 w A0 l0.length l0) := hr0
  have HR1 : Aside (Kd.C k25 w A1 l1.length l1) := hr1
  have HT : Aside (l0.length ≤ 1073741824 ∧ l1.length ≤ 1073741824) := ⟨ht0, ht1⟩
  clear hr0 hc0 hr1 hc1 h
  go_enter Try.func16, Try.ntmps16
  go_wp2
  go_loopg [5, 12] l0.length (fun gk s5 sx wr => ∃ (i : Nat) (acc : List Mu), sx = .int .i64 i ∧ i ≤ l0.length ∧ l0.length - i ≤ gk ∧ Hid (acc = (((l0.take i).filter (fun t => decide (t ∉ l1))).map (fun t => (⟨true, t⟩ : Mu)))) ∧ Aside (Kd.R k27 27 wr w.heap.size (fun _ => True) s5 acc) ∧ Aside (Below w.heap.size w wr))
  case atStart => exact ⟨0, [], rfl, Nat.zero_le _, Nat.le_refl _, rfl, Kd.R_nil _ _ _ _ _, Below.refl _ _⟩
  case round =>

    obtain ⟨i, acc, rfl, hi, hg, HA, HO, HB⟩ := hrel
    by_cases hlt : i < l0.length
    · have hltz : (i : Int) < (l0.length : Int) := by omega
      obtain ⟨ad, x, hA, hx, h0, h1, h2⟩ := el_T HR0.out rfl i hlt
      replace h0 := cell_below HB.out h0
      replace h1 := cell_below HB.out h1
      replace h2 := cell_below HB.out h2
      have hal : acc.length < 4294967296 := by
        rw [HA.out]
        have q1 := List.length_filter_le (fun t => decide (t ∉ l1)) (l0.take i)
        have q2 := List.length_take_le i l0
        have q3 := HT.out

        simp only [List.length_map, List.length_append]
        omega
      have HL : Aside (acc.length < 4294967296 ∧ w.heap.size ≤ wr.heap.size) := ⟨hal, HB.out.size⟩
      have HS : Hid ((((l0.take (i + 1)).filter (fun t => decide (t ∉ l1))).map (fun t => (⟨true, t⟩ : Mu))) = acc ++ (if x ∈ l1 then [] else [⟨true, x⟩])) := by
        show _ = _
        rw [HA.out, take_step l0 i x hx, List.filter_append, List.map_append]
        congr 1
        by_cases hq : x ∈ l1 <;> simp [hq]
      have hcon := fun W hb => contains_T A1 c1 l1 W (Kd.C_below HR1.out hb) x
      have HC : Hid (type_of% hcon) := hcon
      clear HA hal hx hcon
      subst hA
      by_cases hmem : x ∈ l1
      · have hd : decide (x ∈ l1) = true := decide_eq_true hmem
        rw [hd] at HC
        have hq : Hid ((((l0.take (i + 1)).filter (fun t => decide (t ∉ l1))).map (fun t => (⟨true, t⟩ : Mu))) = acc) := by
          show _ = _
          rw [HS.out, if_pos hmem, List.append_nil]
        clear HS hd
        obtain ⟨t0, t1, t2⟩ := x
        dsimp only at h0 h1 h2 HC
        go_wp2_with (go_at_call 32; refine (HC.out _ ?hb).mono ?_; (case hb => exact HB.out.alloc HL.out.2 _); rintro e w1 ⟨rfl, hb1⟩; have HB1 : Aside _ := hb1; clear hb1)
        go_roundg (l0.length - (i + 1))
        case measure => omega
        case rel => exact ⟨i + 1, acc, by first | rfl | go_num, by omega, Nat.le_refl _, hq.out.symm, Kd.R_below (Kd.R_alloc HO.out _) HB1.out, (HB.out.alloc HL.out.2 _).trans (HB1.out.mono (by have := HL.out.2; simp; omega))⟩
      · have hd : decide (x ∈ l1) = false := decide_eq_false hmem
        rw [hd] at HC
        have hq : Hid ((((l0.take (i + 1)).filter (fun t => decide (t ∉ l1))).map (fun t => (⟨true, t⟩ : Mu))) = acc ++ [⟨true, x⟩]) := by
          show _ = _
          rw [HS.out, if_neg hmem]
        clear HS hd
        obtain ⟨t0, t1, t2⟩ := x
        dsimp only at h0 h1 h2 HC
        go_wp2_with (first | (go_at_call 32; refine (HC.out _ ?hb).mono ?_; (case hb => exact HB.out.alloc HL.out.2 _); rintro e w1 ⟨rfl, hb1⟩; have HB1 : Aside _ := hb1; have e0 : w1.cell? ⟨wr.heap.size, 0, none⟩ = some (.string t0) := cell_below hb1 (by simp); have e1 : w1.cell? ⟨wr.heap.size, 1, none⟩ = some (.string t1) := cell_below hb1 (by simp); have e2 : w1.cell? ⟨wr.heap.size, 2, none⟩ = some (.string t2) := cell_below hb1 (by simp); have HL1 : Aside (w.heap.size ≤ w1.heap.size) := (by have q := hb1.size; have q2 := HL.out.2; simp at q; show _ ≤ _; omega); clear hb1) | (at_builtin; refine app_Mu (w0 := w) w.heap.size rfl (.tmp 20) (.tmp 23) rfl u5 acc ⟨true, ⟨t0, t1, t2⟩⟩ rfl (by first | (go_simp; done) | (go_simp; rfl)) ?aO ?aB HL1.out HL.out.1 ?_; (case aO => exact Kd.R_below (Kd.R_alloc HO.out _) HB1.out); (case aB => exact (HB.out.alloc HL.out.2 _).trans (HB1.out.mono (by have := HL.out.2; simp; omega))); intro v2 w2 ho hb hg1 hat; have HO2 : Aside _ := ho; have HB2 : Aside _ := hb; clear ho hb hg1 hat))
        go_roundg (l0.length - (i + 1))
        case measure => omega
        case rel => exact ⟨i + 1, _, by first | rfl | go_num, by omega, Nat.le_refl _, hq.out.symm, HO2.out, HB2.out⟩
    · have hltz : ¬ (i : Int) < (l0.length : Int) := by omega
      have HACC : Hid (acc = ((l0.filter (fun t => decide (t ∉ l1))).map (fun t => (⟨true, t⟩ : Mu)))) := by show _ = _; rw [HA.out, List.take_of_length_le (by omega)]
      clear HA
      go_wp2
      go_loopg [5, 28] l1.length (fun gk s5 sx wr => ∃ (i : Nat) (acc : List Mu), sx = .int .i64 i ∧ i ≤ l1.length ∧ l1.length - i ≤ gk ∧ Hid (acc = (netA l0 l1 ++ ((l1.take i).filter (fun t => decide (t ∉ l0))).map (fun t => (⟨false, t⟩ : Mu)))) ∧ Aside (Kd.R k27 27 wr w.heap.size (fun _ => True) s5 acc) ∧ Aside (Below w.heap.size w wr))
      case atStart => exact ⟨0, acc, rfl, Nat.zero_le _, Nat.le_refl _, by show _ = _; rw [HACC.out]; unfold netA; simp, HO.out, HB.out⟩
      case round =>
        clear HO HB HACC
        obtain ⟨i, acc, rfl, hi, hg, HA, HO, HB⟩ := hrel
        by_cases hlt : i < l1.length
        · have hltz : (i : Int) < (l1.length : Int) := by omega
          obtain ⟨ad, x, hA, hx, h0, h1, h2⟩ := el_T HR1.out rfl i hlt
          replace h0 := cell_below HB.out h0
          replace h1 := cell_below HB.out h1
          replace h2 := cell_below HB.out h2
          have hal : acc.length < 4294967296 := by
            rw [HA.out]
            have q1 := List.length_filter_le (fun t => decide (t ∉ l0)) (l1.take i)
            have q2 := List.length_take_le i l1
            have q3 := HT.out
            have q4 := netA_len l0 l1
            simp only [List.length_map, List.length_append]
            omega
          have HL : Aside (acc.length < 4294967296 ∧ w.heap.size ≤ wr.heap.size) := ⟨hal, HB.out.size⟩
          have HS : Hid ((netA l0 l1 ++ ((l1.take (i + 1)).filter (fun t => decide (t ∉ l0))).map (fun t => (⟨false, t⟩ : Mu))) = acc ++ (if x ∈ l0 then [] else [⟨false, x⟩])) := by
            show _ = _
            rw [HA.out, take_step l1 i x hx, List.filter_append, List.map_append, List.append_assoc]
            congr 2
            by_cases hq : x ∈ l0 <;> simp [hq]
          have hcon := fun W hb => contains_T A0 c0 l0 W (Kd.C_below HR0.out hb) x
          have HC : Hid (type_of% hcon) := hcon
          clear HA hal hx hcon
          subst hA
          by_cases hmem : x ∈ l0
          · have hd : decide (x ∈ l0) = true := decide_eq_true hmem
            rw [hd] at HC
            have hq : Hid ((netA l0 l1 ++ ((l1.take (i + 1)).filter (fun t => decide (t ∉ l0))).map (fun t => (⟨false, t⟩ : Mu))) = acc) := by
              show _ = _
              rw [HS.out, if_pos hmem, List.append_nil]
            clear HS hd
            obtain ⟨t0, t1, t2⟩ := x
            dsimp only at h0 h1 h2 HC
            go_wp2_with (go_at_call 32; refine (HC.out _ ?hb).mono ?_; (case hb => exact HB.out.alloc HL.out.2 _); rintro e w1 ⟨rfl, hb1⟩; have HB1 : Aside _ := hb1; clear hb1)
            go_roundg (l1.length - (i + 1))
            case measure => omega
            case rel => exact ⟨i + 1, acc, by first | rfl | go_num, by omega, Nat.le_refl _, hq.out.symm, Kd.R_below (Kd.R_alloc HO.out _) HB1.out, (HB.out.alloc HL.out.2 _).trans (HB1.out.mono (by have := HL.out.2; simp; omega))⟩
          · have hd : decide (x ∈ l0) = false := decide_eq_false hmem
            rw [hd] at HC
            have hq : Hid ((netA l0 l1 ++ ((l1.take (i + 1)).filter (fun t => decide (t ∉ l0))).map (fun t => (⟨false, t⟩ : Mu))) = acc ++ [⟨false, x⟩]) := by
              show _ = _
              rw [HS.out, if_neg hmem]
            clear HS hd
            obtain ⟨t0, t1, t2⟩ := x
            dsimp only at h0 h1 h2 HC
            go_wp2_with (first | (go_at_call 32; refine (HC.out _ ?hb).mono ?_; (case hb => exact HB.out.alloc HL.out.2 _); rintro e w1 ⟨rfl, hb1⟩; have HB1 : Aside _ := hb1; have e0 : w1.cell? ⟨wr.heap.size, 0, none⟩ = some (.string t0) := cell_below hb1 (by simp); have e1 : w1.cell? ⟨wr.heap.size, 1, none⟩ = some (.string t1) := cell_below hb1 (by simp); have e2 : w1.cell? ⟨wr.heap.size, 2, none⟩ = some (.string t2) := cell_below hb1 (by simp); have HL1 : Aside (w.heap.size ≤ w1.heap.size) := (by have q := hb1.size; have q2 := HL.out.2; simp at q; show _ ≤ _; omega); clear hb1) | (at_builtin; refine app_Mu (w0 := w) w.heap.size rfl (.tmp 36) (.tmp 39) rfl u5 acc ⟨false, ⟨t0, t1, t2⟩⟩ rfl (by first | (go_simp; done) | (go_simp; rfl)) ?aO ?aB HL1.out HL.out.1 ?_; (case aO => exact Kd.R_below (Kd.R_alloc HO.out _) HB1.out); (case aB => exact (HB.out.alloc HL.out.2 _).trans (HB1.out.mono (by have := HL.out.2; simp; omega))); intro v2 w2 ho hb hg1 hat; have HO2 : Aside _ := ho; have HB2 : Aside _ := hb; clear ho hb hg1 hat))
            go_roundg (l1.length - (i + 1))
            case measure => omega
            case rel => exact ⟨i + 1, _, by first | rfl | go_num, by omega, Nat.le_refl _, hq.out.symm, HO2.out, HB2.out⟩
        · have hltz : ¬ (i : Int) < (l1.length : Int) := by omega
          have HACC : Hid (acc = (netA l0 l1 ++ (l1.filter (fun t => decide (t ∉ l0))).map (fun t => (⟨false, t⟩ : Mu)))) := by show _ = _; rw [HA.out, List.take_of_length_le (by omega)]
          clear HA
          have hal : acc.length < 4611686018427387904 := by
            rw [HACC.out]
            have q1 := List.length_filter_le (fun t => decide (t ∉ l0)) l1
            have q3 := HT.out
            have q4 := netA_len l0 l1
            simp only [List.length_map, List.length_append]
            omega
          rw [← net_eq] at HACC
          have hs := sort_Mu w.heap.size u5 acc wr (fl_Mu HO.out) hal (by rw [HACC.out]; exact net_same l0 l1)
          have HSo : Hid (type_of% hs) := hs
          have HF : Aside (wr.ownsRow w.heap.size 27 4 u5 acc.length (acc.flatMap enMu) ∧ acc.length < 4611686018427387904 ∧ (msort ltMu acc).length = acc.length) := ⟨fl_Mu HO.out, hal, (msort_perm _ _).length_eq⟩
          clear hs hal
          go_wp2_with (first | (go_at_call 33; refine HSo.out.mono ?_; rintro e w1 ⟨rfl, ho1, hg1⟩; have HO1 : Aside _ := ho1; have HG1 : Aside _ := hg1; clear ho1 hg1) | (go_at_call 35; refine (compact_Mu w.heap.size u5 (msort ltMu acc) _ ?ho ?hl).mono ?_; (case ho => exact HO1.out); (case hl => have := HF.out; omega); rintro e w2 ⟨v2, rfl, ho2, hv2, hg2⟩; have HO2 : Aside _ := ho2; have HG2 : Aside _ := hg2; clear ho2 hg2 hv2))
          go_ret
          have b1 := below_grown HB.out HG1.out HB.out.size HF.out.1
          exact ⟨_, rfl, by rw [← HACC.out]; exact R_Mu HO2.out, below_grown b1 HG2.out b1.size HO1.out⟩
end Go.Proofs.Ytgjkidclpehnjaa.Pr

namespace Go.Proofs.Ytgjkidclpehnjaa.Pr
open Go.Shelf Go.RowKit Go.Lib Go.Sort Go.Proofs.Ytgjkidclpehnjaa
open Go.Proofs.YtgjkidclpehnjaaW.PrintWords Go.Proofs.YtgjkidclpehnjaaW.PrintLast Go.Proofs.YtgjkidclpehnjaaW.PrintMore
open Go.ChangeMaps (setBlock)

def kv (t : T) : Value := .agg #[.string t.f0, .string t.f1, .string t.f2]
theorem kv_inj {a b : T} : kv a = kv b ↔ a = b := by
  constructor
  · intro h
    obtain ⟨a0, a1, a2⟩ := a
    obtain ⟨b0, b1, b2⟩ := b
    simp [kv] at h
    simp [h]
  · rintro rfl; rfl

theorem check_T (em : Bool) (t : T) (w : World) : (Instr.checkKey em 10000 25 (kv t)).run Try.prog w = .ok () w := by
  have hs : ∀ (n : Nat) (s : ByteArray) (w : World), (Instr.checkKey em (n + 1) 9 (.string s)).run Try.prog w = .ok () w := by
    intro n s w
    simp [Instr.checkKey, run_underlying Try.underlying9]
  rw [show (10000 : Nat) = 9998 + 1 + 1 from rfl]
  unfold kv
  rw [Instr.checkKey]
  go_simp

/-- Where a key stands, and what it holds. -/
def mfind (t : T) : List (T × Int) → Nat → Option (Nat × Int)
  | [], _ => none
  | p :: m, i => if t = p.1 then some (i, p.2) else mfind t m (i + 1)
def mput (t : T) (v : Int) (m : List (T × Int)) : List (T × Int) :=
  match mfind t m 0 with
  | some (i, _) => m.set i (t, v)
  | none => m ++ [(t, v)]
def mdel (t : T) (m : List (T × Int)) : List (T × Int) :=
  match mfind t m 0 with
  | some (i, _) => m.eraseIdx i
  | none => m
def ent (e : MapEntry) : Value × Value := (e.key, e.val)
def pr (p : T × Int) : Value × Value := (kv p.1, .int .i64 p.2)

theorem equal_T (a b : T) (w : World) : (Op.equal 25 (kv a) (kv b)).run Try.prog w = .ok (decide (a = b)) w := by
  unfold kv
  simp only [Op.equal, Op.maxDepth]
  rw [show (10000 : Nat) = 9998 + 2 from rfl, eqA25, eqx_T]
theorem asking_T (t : T) (w : World) : ∀ (es : List MapEntry) (m : List (T × Int)) (i : Nat), es.map ent = m.map pr → (Instr.findAsking 25 (kv t) es i).run Try.prog w = .ok ((mfind t m i).map (fun q => (q.1, Value.int .i64 q.2))) w
  | [], [], i, _ => by simp [Instr.findAsking, mfind]
  | [], _ :: _, _, h => by simp at h
  | _ :: _, [], _, h => by simp at h
  | e :: es, p :: m, i, h => by
    rw [List.map_cons, List.map_cons] at h
    obtain ⟨h1, h2⟩ := List.cons.inj h
    have hk : e.key = kv p.1 := congrArg Prod.fst h1
    have hv : e.val = .int .i64 p.2 := congrArg Prod.snd h1
    have ih := asking_T t w es m (i + 1) h2
    have he := equal_T t p.1 w
    rw [Instr.findAsking, hk, mfind]
    by_cases hq : t = p.1
    · rw [decide_eq_true hq] at he
      rw [if_pos hq]
      simp [Sem.run_bind, he, Result.andThen, hv]
    · rw [decide_eq_false hq] at he
      rw [if_neg hq]
      simp [Sem.run_bind, he, Result.andThen, ih]
theorem find_T (t : T) (w : World) (es : List MapEntry) (m : List (T × Int)) (h : es.map ent = m.map pr) : (Instr.findKey 25 (kv t) es).run Try.prog w = .ok ((mfind t m 0).map (fun q => (q.1, Value.int .i64 q.2))) w := by
  have ha := asking_T t w es m 0 h
  cases es with
  | nil =>
    cases m with
    | nil => simp [Instr.findKey, Instr.findNow, run_underlying Try.underlying25, mfind]
    | cons p m => simp at h
  | cons e es =>
    have hn : ∀ fs, Instr.sameNow (.struct fs) (kv t) e.key = none := fun fs => by simp [Instr.sameNow, kv]
    unfold Instr.findKey
    simp only [Sem.run_bind, run_underlying Try.underlying25, Result.andThen]
    simp only [Instr.findNow, hn]
    exact ha

/-- Block b of w is a map that holds m. -/
def MapIs (w : World) (b : Nat) (m : List (T × Int)) : Prop :=
  ∃ es clock, w.heap[b]? = some (.map es clock) ∧ es.toList.map ent = m.map pr ∧ (es.toList.map (·.born)).Nodup ∧ ∀ e ∈ es.toList, e.born < clock
theorem MapIs.made (w : World) : MapIs (w.alloc (.map #[] 0)) w.heap.size [] := ⟨#[], 0, blk_new _ _, rfl, by simp, by simp⟩
theorem MapIs.lt {w : World} {b : Nat} {m : List (T × Int)} (h : MapIs w b m) : b < w.heap.size := by
  obtain ⟨es, clock, hb, _⟩ := h
  exact (Array.getElem?_eq_some_iff.1 hb).1
theorem MapIs.kept {w w' : World} {b : Nat} {m : List (T × Int)} (h : MapIs w b m) (hb : w'.heap[b]? = w.heap[b]?) : MapIs w' b m := by
  obtain ⟨es, clock, h1, h2⟩ := h
  exact ⟨es, clock, hb.trans h1, h2⟩
theorem MapIs.alloc {w : World} {b : Nat} {m : List (T × Int)} (h : MapIs w b m) (o : Obj) : MapIs (w.alloc o) b m := h.kept (Below.heap_alloc _ _ _ h.lt)

theorem grown_setBlock {w : World} {b : Nat} {es : Array MapEntry} {c : Nat} (hb : w.heap[b]? = some (.map es c)) (o : Obj) : w.grownBy (setBlock w b o) (some b) :=
  ⟨rfl, rfl, rfl, by simp [setBlock], fun k _ hk => by
    have : b ≠ k := fun e => hk (by rw [e])
    simp [setBlock, Array.getElem?_setIfInBounds, this]⟩

/-- v, ok := m[t] -/
theorem look_T {w : World} {b : Nat} {m : List (T × Int)} (h : MapIs w b m) (t : T) :
    Sem.run Try.prog (Instr.lookup 52 (.map (some b)) (kv t) true) w = .ok (match mfind t m 0 with | some q => .tuple #[.int .i64 q.2, .bool true] | none => .tuple #[.int .i64 0, .bool false]) w := by
  obtain ⟨es, clock, hb, hm, _⟩ := h
  have hc := check_T es.isEmpty t w
  have hf := find_T t w es.toList m hm
  have hg : (getObj b).run Try.prog w = .ok (.map es clock) w := by simp [getObj, Sem.run, hb]
  unfold Instr.lookup
  simp only [Sem.run_bind, run_underlying Try.underlying52, Result.andThen, hg]
  cases hq : mfind t m 0 with
  | none =>
    rw [hq] at hf
    simp [hc, hf, Try.zeroValue3]
  | some q =>
    rw [hq] at hf
    simp [hc, hf]
theorem setObj_map {w : World} {b : Nat} {es : Array MapEntry} {c : Nat} (hb : w.heap[b]? = some (.map es c)) (o : Obj) : (setObj b o).run Try.prog w = .ok () (setBlock w b o) := by
  simp [setObj, Sem.run, hb, setBlock]
theorem mfind_at (t : T) : ∀ (m : List (T × Int)) (i j : Nat) (v : Int), mfind t m i = some (j, v) → ∃ n, j = i + n ∧ m[n]? = some (t, v)
  | [], _, _, _, h => by simp [mfind] at h
  | p :: m, i, j, v, h => by
    rw [mfind] at h
    split at h
    · rename_i e
      injection h with h
      injection h with h1 h2
      exact ⟨0, by omega, by simp [e, h2.symm]⟩
    · obtain ⟨n, h1, h2⟩ := mfind_at t m (i + 1) j v h
      exact ⟨n + 1, by omega, by simpa using h2⟩
/-- m[t] = v -/
theorem put_T {w : World} {b : Nat} {m : List (T × Int)} (h : MapIs w b m) (t : T) (v : Int) :
    ∃ w', Sem.run Try.prog (Instr.mapUpdate 52 (.map (some b)) (kv t) (.int .i64 v)) w = .ok () w' ∧ MapIs w' b (mput t v m) ∧ w.grownBy w' (some b) := by
  obtain ⟨es, clock, hb, hm, hn, hl⟩ := h
  have hc := check_T false t w
  have hf := find_T t w es.toList m hm
  have hg : (getObj b).run Try.prog w = .ok (.map es clock) w := by simp [getObj, Sem.run, hb]
  unfold mput
  cases hq : mfind t m 0 with
  | none =>
    rw [hq] at hf
    refine ⟨setBlock w b (.map (es.push ⟨kv t, .int .i64 v, clock⟩) (clock + 1)), ?_, ⟨_, _, ChangeMaps.heap_setBlock_same hb _, ?_, ?_, ?_⟩, grown_setBlock hb _⟩
    · unfold Instr.mapUpdate
      simp only [Sem.run_bind, run_underlying Try.underlying52, Result.andThen, hg, hc, hf, Option.map_none, setObj_map hb]
    · simp [hm, ent, pr]
    · simp only [Array.toList_push, List.map_append, List.map_cons, List.map_nil]
      rw [List.nodup_append]
      refine ⟨hn, by simp, ?_⟩
      intro x hx y hy
      obtain ⟨e, he, rfl⟩ := List.mem_map.1 hx
      have := hl e he
      simp at hy
      omega
    · intro e he
      simp only [Array.toList_push, List.mem_append, List.mem_singleton] at he
      rcases he with he | rfl
      · have := hl e he; omega
      · show clock < clock + 1; omega
  | some q =>
    obtain ⟨i, v0⟩ := q
    rw [hq] at hf
    obtain ⟨n, hin, hmn⟩ := mfind_at t m 0 i v0 hq
    obtain rfl : i = n := by omega
    have hlt : i < es.size := by
      have h1 := congrArg List.length hm
      have h2 := lt_of_get hmn
      simp at h1; omega
    have hkey : es[i].key = kv t := by
      have h1 : (es.toList.map ent)[i]? = (m.map pr)[i]? := by rw [hm]
      rw [List.getElem?_map, List.getElem?_map, hmn, Array.getElem?_toList, Array.getElem?_eq_getElem hlt] at h1
      simp only [Option.map_some, Option.some.injEq] at h1
      exact congrArg Prod.fst h1
    have hsame : Instr.sameBits 10000 (kv t) (kv t) = true := by
      unfold kv
      rw [show (10000 : Nat) = 9999 + 1 from rfl, Instr.sameBits]
      have hs : ∀ (n : Nat) (s : ByteArray), Instr.sameBits n (.string s) (.string s) = true := fun n s => by
        have h1 : (s == s) = true := by rw [beq_toListBytes]; simp
        cases n <;> simp [Instr.sameBits, h1]
      simp [hs]
    have hstay : (Instr.keyThatStays (((es[i]?).map (·.key)).getD (kv t)) (kv t)).run Try.prog w = .ok (kv t) w := by
      rw [Array.getElem?_eq_getElem hlt, Option.map_some, Option.getD_some, hkey]
      simp [Instr.keyThatStays, hsame]
    refine ⟨setBlock w b (.map (es.modify i fun e => { e with key := kv t, val := .int .i64 v }) clock), ?_, ⟨_, _, ChangeMaps.heap_setBlock_same hb _, ?_, ?_, ?_⟩, grown_setBlock hb _⟩
    · unfold Instr.mapUpdate
      simp only [Sem.run_bind, run_underlying Try.underlying52, Result.andThen, hg, hc, hf, Option.map_some, hstay, setObj_map hb]
    · apply List.ext_getElem?
      intro j
      have h1 : (es.toList.map ent)[j]? = (m.map pr)[j]? := by rw [hm]
      simp only [List.getElem?_map, Array.getElem?_toList, Array.getElem?_modify, List.getElem?_set] at h1 ⊢
      by_cases hj : i = j
      · subst hj
        have h2 := lt_of_get hmn
        simp [Array.getElem?_eq_getElem hlt, ent, pr, h2]
      · simp [hj, h1]
    · have e : ((es.modify i fun e => { e with key := kv t, val := Value.int .i64 v }).toList.map (·.born)) = es.toList.map (·.born) := by
        apply List.ext_getElem?
        intro j
        simp only [List.getElem?_map, Array.getElem?_toList, Array.getElem?_modify]
        by_cases hj : i = j
        · subst hj; simp only [if_true, Option.map_map]; cases es[i]? <;> rfl
        · simp [hj]
      rw [e]; exact hn
    · intro e he
      rw [Array.mem_toList_iff, Array.mem_iff_getElem?] at he
      obtain ⟨j, hj⟩ := he
      rw [Array.getElem?_modify] at hj
      split at hj
      · obtain ⟨e0, h0, rfl⟩ := Option.map_eq_some_iff.1 hj
        exact hl e0 (by rw [Array.mem_toList_iff, Array.mem_iff_getElem?]; exact ⟨j, h0⟩)
      · exact hl e (by rw [Array.mem_toList_iff, Array.mem_iff_getElem?]; exact ⟨j, hj⟩)
/-- delete(m, t) -/
theorem del_T {w : World} {b : Nat} {m : List (T × Int)} (h : MapIs w b m) (t : T) :
    ∃ w', (∀ ty, Sem.run Try.prog (Builtin.delete_ #[52, 25] ty #[.map (some b), kv t]) w = .ok (.tuple #[]) w') ∧ MapIs w' b (mdel t m) ∧ w.grownBy w' (some b) := by
  obtain ⟨es, clock, hb, hm, hn, hl⟩ := h
  have hc := check_T es.isEmpty t w
  have hf := find_T t w es.toList m hm
  have hg : (getObj b).run Try.prog w = .ok (.map es clock) w := by simp [getObj, Sem.run, hb]
  unfold mdel
  cases hq : mfind t m 0 with
  | none =>
    rw [hq] at hf
    refine ⟨setBlock w b (.map es clock), fun ty => ?_, ⟨_, _, ChangeMaps.heap_setBlock_same hb _, hm, hn, hl⟩, grown_setBlock hb _⟩
    unfold Builtin.delete_
    simp [Sem.run_bind, run_underlying Try.underlying52, Result.andThen, hg, hc, hf, setObj_map hb]
  | some q =>
    obtain ⟨i, v0⟩ := q
    rw [hq] at hf
    have ht : (es.eraseIdxIfInBounds i).toList = es.toList.eraseIdx i := by
      unfold Array.eraseIdxIfInBounds
      split
      · simp
      · rename_i hh
        rw [List.eraseIdx_of_length_le (by simp; omega)]
    refine ⟨setBlock w b (.map (es.eraseIdxIfInBounds i) clock), fun ty => ?_, ⟨_, _, ChangeMaps.heap_setBlock_same hb _, ?_, ?_, ?_⟩, grown_setBlock hb _⟩
    · unfold Builtin.delete_
      simp [Sem.run_bind, run_underlying Try.underlying52, Result.andThen, hg, hc, hf, setObj_map hb]
    · rw [ht, ChangeMaps.map_eraseIdx, ChangeMaps.map_eraseIdx, hm]
    · rw [ht, ChangeMaps.map_eraseIdx]; exact hn.sublist (List.eraseIdx_sublist _ _)
    · intro e he
      rw [ht] at he
      exact hl e ((List.eraseIdx_sublist _ _).subset he)
end Go.Proofs.Ytgjkidclpehnjaa.Pr

namespace Go.Proofs.Ytgjkidclpehnjaa.Pr
open Go.Shelf Go.RowKit Go.Lib Go.Sort Go.Proofs.Ytgjkidclpehnjaa
open Go.Proofs.YtgjkidclpehnjaaW.PrintWords Go.Proofs.YtgjkidclpehnjaaW.PrintLast Go.Proofs.YtgjkidclpehnjaaW.PrintMore
open Go.ChangeMaps (setBlock)

/-- Block r is an iterator over the map in block b; acc has come, n keys are left. -/
def RngIs (w : World) (r b : Nat) (ks acc : List T) (n : Nat) : Prop :=
  ∃ es clock since seen c L, w.heap[b]? = some (.map es clock) ∧ w.heap[r]? = some (.mapIter (some b) since seen c) ∧ (es.toList.map (·.born)).Nodup ∧ (∀ e ∈ es.toList, e.born < since) ∧ (since ≤ c ∧ since ≤ clock) ∧
    (leftOf es seen).toList.map (·.key) = L.map kv ∧ L.length = n ∧ (acc ++ L).Perm ks
theorem RngIs.kept {w w' : World} {r b : Nat} {ks acc : List T} {n : Nat} (h : RngIs w r b ks acc n) (hb : w'.heap[b]? = w.heap[b]?) (hr : w'.heap[r]? = w.heap[r]?) : RngIs w' r b ks acc n := by
  obtain ⟨es, clock, since, seen, c, L, h1, h2, h3⟩ := h
  exact ⟨es, clock, since, seen, c, L, hb.trans h1, hr.trans h2, h3⟩
theorem RngIs.lt {w : World} {r b : Nat} {ks acc : List T} {n : Nat} (h : RngIs w r b ks acc n) : r < w.heap.size ∧ b < w.heap.size := by
  obtain ⟨es, clock, since, seen, c, L, h1, h2, h3⟩ := h
  exact ⟨(Array.getElem?_eq_some_iff.1 h2).1, (Array.getElem?_eq_some_iff.1 h1).1⟩
theorem map_kv {m : List (T × Int)} {l : List MapEntry} (h : l.map ent = m.map pr) : l.map (·.key) = (m.map Prod.fst).map kv := by
  have h1 : (l.map ent).map Prod.fst = (m.map pr).map Prod.fst := by rw [h]
  simpa [List.map_map, ent, pr, Function.comp_def] using h1
theorem rng_start {w : World} {b : Nat} {m : List (T × Int)} (h : MapIs w b m) :
    ∃ o, Sem.run Try.prog (Instr.range 52 (.map (some b))) w = .ok (.pointer (some ⟨w.heap.size, 0, none⟩)) (w.alloc o) ∧ RngIs (w.alloc o) w.heap.size b (m.map Prod.fst) [] m.length := by
  obtain ⟨es, clock, hb, hm, hn, hl⟩ := h
  refine ⟨.mapIter (some b) clock #[] clock, ?_, es, clock, clock, #[], clock, m.map Prod.fst, (Below.heap_alloc _ _ _ (Array.getElem?_eq_some_iff.1 hb).1).trans hb, blk_new _ _, hn, hl, ⟨Nat.le_refl _, Nat.le_refl _⟩, ?_, by simp, List.Perm.refl _⟩
  · have hg : (getObj b).run Try.prog w = .ok (.map es clock) w := by simp [getObj, Sem.run, hb]
    unfold Instr.range
    simp [Sem.run_bind, run_underlying Try.underlying52, hg, Result.andThen]
  · have : leftOf es #[] = es := by unfold leftOf; simp
    rw [this, map_kv hm]
theorem left_push (es : Array MapEntry) (seen : Array Nat) (e : MapEntry) : (leftOf es (seen.push e.born)).toList = (leftOf es seen).toList.filter (fun x => decide (x.born ≠ e.born)) := by
  unfold leftOf
  simp only [Array.toList_filter, List.filter_filter]
  apply List.filter_congr
  intro x _
  by_cases h : x.born = e.born <;> simp [h]
theorem rng_next {w : World} {r b : Nat} {ks acc : List T} {n : Nat} (h : RngIs w r b ks acc n) :
    (n = 0 ∧ acc.Perm ks ∧ ∀ ty, Sem.run Try.prog (Instr.next (.pointer (some ⟨r, 0, none⟩)) false ty) w = .ok (.tuple #[.bool false]) w) ∨
    ∃ t w' n', n = n' + 1 ∧ (∃ u, (∀ ty, Sem.run Try.prog (Instr.next (.pointer (some ⟨r, 0, none⟩)) false ty) w = .ok (.tuple #[.bool true, kv t, u]) w') ∧ Sem.run Try.prog (Instr.entry (.pointer (some ⟨r, 0, none⟩))) w' = .ok (.tuple #[kv t, u]) w') ∧ RngIs w' r b ks (acc ++ [t]) n' ∧ w.grownBy w' (some r) := by
  obtain ⟨es, clock, since, seen, c, L, hb, hr, hn, hl, ⟨hsc, hsk⟩, hL, hLn, hp⟩ := h
  have hne : r ≠ b := by rintro rfl; rw [hr] at hb; cases hb
  rcases run_next_at (P := Try.prog) w 0 r b since c seen es clock hr hb hl hsc with ⟨h0, _⟩ | ⟨_, he0, _⟩
  · left
    have hL0 : L = [] := by
      have h1 := congrArg List.length hL
      simp [h0] at h1
      exact List.eq_nil_of_length_eq_zero h1.symm
    subst hL0
    refine ⟨by simpa using hLn.symm, by simpa using hp, fun ty => ?_⟩
    rcases run_next_at (P := Try.prog) w ty r b since c seen es clock hr hb hl hsc with ⟨_, h1⟩ | ⟨e, he, _⟩
    · exact h1
    · have : (leftOf es seen).toList.length = 0 := by simpa using h0
      rw [List.eq_nil_of_length_eq_zero this] at he
      cases he
  · right
    rcases run_next_at (P := Try.prog) w 0 r b since c seen es clock hr hb hl hsc with ⟨h0, _⟩ | ⟨e, he, w1, hw1, hrun⟩
    · have : (leftOf es seen).toList.length = 0 := by simpa using h0
      rw [List.eq_nil_of_length_eq_zero this] at he0
      cases he0
    · have hb1 : w1.heap[b]? = some (.map es clock) := by rcases hw1 with rfl | rfl <;> exact hb
      have hr1 : w1.heap[r]? = some (.mapIter (some b) since seen c) := by rcases hw1 with rfl | rfl <;> exact hr
      have hes : e ∈ es.toList := by
        unfold leftOf at he
        rw [Array.toList_filter] at he
        exact (List.mem_filter.1 he).1
      have hkm : e.key ∈ L.map kv := by rw [← hL]; exact List.mem_map_of_mem he
      obtain ⟨t, htL, hkt⟩ := List.mem_map.1 hkm
      have hlt : r < w1.heap.size := (Array.getElem?_eq_some_iff.1 hr1).1
      have hb2 : (setBlock w1 r (.mapIter (some b) since (seen.push e.born) clock)).heap[b]? = some (.map es clock) := by
        unfold setBlock
        rw [Array.getElem?_setIfInBounds_ne hne]
        exact hb1
      have hr2 : (setBlock w1 r (.mapIter (some b) since (seen.push e.born) clock)).heap[r]? = some (.mapIter (some b) since (seen.push e.born) clock) := by
        unfold setBlock
        rw [Array.getElem?_setIfInBounds_self_of_lt hlt]
      -- the rest of the keys
      have hnd : ((leftOf es seen).toList.map (·.born)).Nodup := by
        unfold leftOf
        rw [Array.toList_filter]
        exact hn.sublist (List.filter_sublist.map _)
      obtain ⟨l1, l2, hl12⟩ := List.append_of_mem he
      have hflt : (leftOf es (seen.push e.born)).toList = l1 ++ l2 := by
        rw [left_push, hl12]
        rw [hl12, List.map_append, List.map_cons, List.nodup_append] at hnd
        obtain ⟨_, hn2, hn3⟩ := hnd
        rw [List.nodup_cons] at hn2
        rw [List.filter_append, List.filter_cons_of_neg (by simp)]
        rw [List.filter_eq_self.2, List.filter_eq_self.2]
        · intro x hx
          have : x.born ≠ e.born := fun h => hn2.1 (by rw [← h]; exact List.mem_map_of_mem hx)
          simpa using this
        · intro x hx
          have := hn3 x.born (List.mem_map_of_mem hx) e.born (by simp)
          simpa using this
      rw [hl12, List.map_append, List.map_cons] at hL
      have hLs : ∃ L1 L2, L = L1 ++ t :: L2 ∧ l1.map (·.key) = L1.map kv ∧ l2.map (·.key) = L2.map kv := by
        have hlen : l1.length < L.length := by
          have := congrArg List.length hL
          simp at this; omega
        refine ⟨L.take l1.length, L.drop (l1.length + 1), ?_, ?_, ?_⟩
        · have hx : L[l1.length] = t := by
            have h1 : (L.map kv)[l1.length]? = some e.key := by rw [← hL]; simp
            rw [List.getElem?_map, List.getElem?_eq_getElem hlen] at h1
            simp only [Option.map_some, Option.some.injEq] at h1
            exact kv_inj.1 (h1.trans hkt.symm)
          rw [← hx]
          conv => lhs; rw [← List.take_append_drop l1.length L, List.drop_eq_getElem_cons hlen]
        · have := congrArg (List.take l1.length) hL
          rw [List.take_left' (by simp), ← List.map_take] at this
          exact this
        · have := congrArg (List.drop (l1.length + 1)) hL
          rw [← List.map_drop] at this
          rw [← this]
          simp [List.drop_append]
      obtain ⟨L1, L2, rfl, hL1, hL2⟩ := hLs
      refine ⟨t, _, L1.length + L2.length, by simp at hLn; omega, ⟨e.val, fun ty => ?_, ?_⟩, ⟨es, clock, since, seen.push e.born, clock, L1 ++ L2, hb2, hr2, hn, hl, ⟨hsk, hsk⟩, ?_, by simp, ?_⟩, ?_⟩
      · rw [hkt]; exact hrun
      · rw [hkt]; exact run_entry_at _ r b since seen es clock e hr2 hb2 hes hn
      · rw [hflt, List.map_append, List.map_append, hL1, hL2]
      · refine List.Perm.trans ?_ hp
        rw [List.append_assoc]
        exact List.Perm.append_left _ (by simpa using (List.perm_middle (a := t) (l₁ := L1) (l₂ := L2)).symm)
      · have hg : w.grownBy w1 none := by
          rcases hw1 with rfl | rfl
          · exact World.grownBy.refl _ _
          · exact ⟨rfl, rfl, rfl, Nat.le_refl _, fun _ _ _ => rfl⟩
        refine ⟨hg.os, hg.tape, hg.output, by simpa [setBlock] using hg.size, fun k hk hkr => ?_⟩
        have : r ≠ k := fun e => hkr (by rw [e])
        unfold setBlock
        rw [Array.getElem?_setIfInBounds_ne this]
        exact hg.block k hk (by simp)
end Go.Proofs.Ytgjkidclpehnjaa.Pr
