/- A part of the proof of the law; the last part states it: whatever the law reads, of bulk at most 2^20, it returns true and what it reads is as it was. Condition: the form's own bound. -/
import Derived.Test.YtgdmdhhihoifkaaEf2
import Derived.Shelf.SlSortCmp.InsertionK
import Derived.Shelf.SlSortCmp.KitK
import Derived.Sort.WalkB2
import Derived.Sort.WalkB12
import Derived.Deep.LoopGhost
import Derived.Test.YtgdmdhhihoifkaaChecked
set_option linter.unusedVariables false
set_option linter.unusedSimpArgs false
namespace Go.Proofs.Ytgdmdhhihoifkaa
open Go.Shelf Go.RowKit Go.Lib Go.Sort
variable {P : Program} {α : Type} [Inhabited α]

set_option maxHeartbeats 64000000 in
set_option maxRecDepth 1000000 in
/-- Two sorted runs merged. -/
theorem StRow.symMerge {k : Nat} (L : StRowF P k) (enc : α → List Value) (cf : α → α → Int) (hO : SWO (ltOf cf)) (g : Nat) (cb : Array Value) (blk off cap sz : Nat) (d0 : Array α) (w0 : World) (R : RowK enc k w0 blk off d0)
    (eg : ∀ args w, (callFunc g args).run P w = .ok (.enter g args) w) (hcmp : CmpLays P g cb enc k cf blk off sz w0) (hs : d0.size = sz) (hbig : sz < 4611686018427387904) :
    ∀ (N a m b : Nat) (X U V Y : List α) (w : World), b - a ≤ N → a = X.length → m = X.length + U.length → b = X.length + U.length + V.length → 0 < U.length → 0 < V.length → sz = X.length + U.length + V.length + Y.length →
    SortedL (ltOf cf) U → SortedL (ltOf cf) V → SWK enc k w0 blk off (X ++ U ++ V ++ Y).toArray w →
    Calls P 50 #[.slice (some ⟨blk, off, none⟩) sz cap, .int .i64 a, .int .i64 m, .int .i64 b, .func (.func g) #[] cb] w fun e w' => e = .returned (.tuple #[]) ∧
      ∃ W, SWK enc k w0 blk off (X ++ W ++ Y).toArray w' ∧ SortedL (ltOf cf) W ∧ Stab (ltOf cf) (U ++ V) W := by
  intro N
  induction N using Nat.strongRecOn with
  | _ N IH =>
  intro a m b X U V Y w hN ha hm hb hU hV hz sU sV S
  by_cases hU1 : U.length = 1
  · obtain ⟨x, rfl⟩ : ∃ x, U = [x] := List.length_eq_one_iff.1 hU1
    exact StRow.symFirst L enc cf hO g cb blk off cap sz d0 w0 R eg hcmp hs hbig a m b X V Y x w ha (by simpa using hm) (by simpa using hb) hV (by simpa using hz) sV (by simpa using S)
  by_cases hV1 : V.length = 1
  · obtain ⟨x, rfl⟩ : ∃ x, V = [x] := List.length_eq_one_iff.1 hV1
    exact StRow.symLast L enc cf hO g cb blk off cap sz d0 w0 R eg hcmp hs hbig a m b X U Y x w ha hm (by simpa using hb) (by omega) (by simpa using hz) sU (by simpa using S)
  have ih : ∀ n, n < b - a → ∀ (a m b : Nat) (X U V Y : List α) (w : World), b - a ≤ n → a = X.length → m = X.length + U.length → b = X.length + U.length + V.length → 0 < U.length → 0 < V.length → sz = X.length + U.length + V.length + Y.length →
    SortedL (ltOf cf) U → SortedL (ltOf cf) V → SWK enc k w0 blk off (X ++ U ++ V ++ Y).toArray w →
    Calls P 50 #[.slice (some ⟨blk, off, none⟩) sz cap, .int .i64 a, .int .i64 m, .int .i64 b, .func (.func g) #[] cb] w fun e w' => e = .returned (.tuple #[]) ∧
      ∃ W, SWK enc k w0 blk off (X ++ W ++ Y).toArray w' ∧ SortedL (ltOf cf) W ∧ Stab (ltOf cf) (U ++ V) W := fun n hn => IH n (by omega)
  have IHA : Aside _ := ih
  clear ih IH
  have ih := fun n hn => IHA.out n hn
  have mixed := L.mixed; have t3 := L.t3; have a3 := L.a3; have z3 := L.z3; have v3 := L.v3; have t4 := L.t4; have a4 := L.a4; have z4 := L.z4; have v4 := L.v4; have t22 := L.t22; have a22 := L.a22; have z22 := L.z22; have v22 := L.v22; have t25 := L.t25; have a25 := L.a25; have z25 := L.z25; have v25 := L.v25; have aE := L.aE; have zE := L.zE; have t84 := L.t84; have a84 := L.a84; have z84 := L.z84; have v84 := L.v84; have u3 := run_underlying L.t3; have u84 := run_underlying L.t84
  have e72 : ∀ args w, (callFunc 72 args).run P w = .ok (.enter 72 args) w := enters_of L.frot (by kernel_rfl) rfl
  have e50 : ∀ args w, (callFunc 50 args).run P w = .ok (.enter 50 args) w := enters_of L.fsym (by kernel_rfl) rfl
  have HC : Aside _ := hcmp
  have HO : Aside _ := hO
  have HSU : Aside _ := sU
  have HSV : Aside _ := sV
  obtain ⟨l, hl⟩ : ∃ l, l = X ++ U ++ V ++ Y := ⟨_, rfl⟩
  rw [← hl] at S
  have HL : Hid (l = X ++ U ++ V ++ Y) := hl
  have HE : Hid (l.toArray.size = sz ∧ d0.size = sz) := ⟨by rw [hl]; simp; omega, hs⟩
  have HM : Hid (a = X.length ∧ m = X.length + U.length ∧ b = X.length + U.length + V.length ∧ sz = X.length + U.length + V.length + Y.length) := ⟨ha, hm, hb, hz⟩
  have S0 : Aside (SWK enc k w0 blk off l.toArray w) := S
  obtain ⟨mid, hmid⟩ : ∃ mid, mid = (a + b) / 2 := ⟨_, rfl⟩
  have zmid : ((a : Int) + (b : Int)) / 2 = (mid : Int) := by omega
  have b1 : a + 1 < m := by omega
  have b2 : m + 1 < b := by omega
  have b3 : b ≤ sz := by omega
  have b4 : 2 * mid ≤ a + b := by omega
  have b5 : a + b ≤ 2 * mid + 1 := by omega
  have h1 : ((m : Int) - (a : Int) == 1) = false := by rw [beq_eq_false_iff_ne]; omega
  have h2 : ((b : Int) - (m : Int) == 1) = false := by rw [beq_eq_false_iff_ne]; omega
  clear S ha hm hb hU hV hz hs hcmp hl hO sU sV hU1 hV1 hmid hN
  have IH2 : Aside _ := ih
  clear ih IHA
  by_cases hbig' : mid < m
  · go_enter L.fsym, Try.ntmps50
    obtain ⟨s0, hs0⟩ : ∃ s0, s0 = mid + m - b := ⟨_, rfl⟩
    have zs0 : (mid : Int) + (m : Int) - (b : Int) = (s0 : Int) := by omega
    have g1 : a ≤ s0 := by omega
    have g2 : s0 + b ≤ mid + m := by omega
    have g2' : mid + m ≤ s0 + b := by omega
    have g3 : s0 ≤ mid := by omega
    have gm : (mid : Int) < (m : Int) := by omega
    clear hs0
    go_wp2
    go_loopg [20, 21] (mid - s0) (fun gk s20 s21 wr => ∃ s r : Nat, s20 = .int .i64 s ∧ s21 = .int .i64 r ∧ s0 ≤ s ∧ s ≤ r ∧ r ≤ mid ∧ r - s ≤ gk ∧ Aside (SWK enc k w0 blk off l.toArray wr) ∧
      Aside ((s = s0 ∨ ltOf cf l.toArray[mid + m - s]! l.toArray[s - 1]! = false) ∧ (r = mid ∨ ltOf cf l.toArray[mid + m - 1 - r]! l.toArray[r]! = true)))
    case atStart => exact ⟨s0, mid, rfl, rfl, Nat.le_refl _, by omega, Nat.le_refl _, Nat.le_refl _, S0, ⟨.inl rfl, .inl rfl⟩⟩
    case round =>
      clear S0
      obtain ⟨s, r, rfl, rfl, hss, hsr, hrr, hg, S1, I⟩ := hrel
      by_cases hlt : s < r
      · obtain ⟨c, hh⟩ : ∃ c, c = (s + r) / 2 := ⟨_, rfl⟩
        have hz1 : ((s : Int) + (r : Int)) / 2 = (c : Int) := by omega
        have hsc : s ≤ c := by omega
        have hcr : c < r := by omega
        clear hh
        obtain ⟨d, hd⟩ : ∃ d, d = mid + m - 1 - c := ⟨_, rfl⟩
        have hz2 : (mid : Int) + (m : Int) - 1 - (c : Int) = (d : Int) := by omega
        have hdb : d < b := by omega
        have hltz : (s : Int) < (r : Int) := by omega
        have hsz := HE.out.1
        have l1 := S1.out.ld R (by rw [hsz]; exact HE.out.2.symm) P d (by rw [hsz]; omega)
        have l2 := S1.out.ld R (by rw [hsz]; exact HE.out.2.symm) P c (by rw [hsz]; omega)
        obtain ⟨y, hy⟩ : ∃ y, y = l.toArray[d]! := ⟨_, rfl⟩
        obtain ⟨x1, hx1⟩ : ∃ y, y = l.toArray[c]! := ⟨_, rfl⟩
        rw [← hy] at l1
        rw [← hx1] at l2
        have hc := S1.out.cmp HC.out hsz y x1
        have HY : Hid (y = l.toArray[d]! ∧ x1 = l.toArray[c]! ∧ d = mid + m - 1 - c) := ⟨hy, hx1, hd⟩
        clear hsz hy hx1 hd
        have pa1 : (0 : Int) ≤ (d : Int) := by omega
        have ba1 : (d : Int) < (sz : Int) := by omega
        have pa2 : (0 : Int) ≤ (c : Int) := by omega
        have ba2 : (c : Int) < (sz : Int) := by omega
        have rd : IntKind.i64.wrap (d : Int) = (d : Int) := by rw [IntKind.wrap_i64]; omega
        by_cases hlv : cf y x1 < 0
        · have hdv : decide (cf y x1 < 0) = true := decide_eq_true hlv
          go_wp2_with fail
          go_quiet_grown (first | (go_at_fn g; refine Calls.grown_of (hc _ _)))
          have S2 : Aside (SWK enc k w0 blk off l.toArray (grow (wr.drewN nq) osq)) := S1.out.grown nq osq
          clear l1 l2 hc S1 rd
          generalize grow (wr.drewN nq) osq = wv at S2 ⊢
          clear nq osq
          go_wp2
          go_roundg (c - s)
          case measure => omega
          case rel =>
            have I2 : Aside ((s = s0 ∨ ltOf cf l.toArray[mid + m - s]! l.toArray[s - 1]! = false) ∧ (c = mid ∨ ltOf cf l.toArray[mid + m - 1 - c]! l.toArray[c]! = true)) := ⟨I.out.1, .inr (by rw [← HY.out.2.2, ← HY.out.1, ← HY.out.2.1]; exact hdv)⟩
            exact ⟨s, c, rfl, rfl, hss, hsc, by omega, Nat.le_refl _, S2, I2⟩
        -- not less
        · have hdv : decide (cf y x1 < 0) = false := decide_eq_false hlv
          go_wp2_with fail
          go_quiet_grown (first | (go_at_fn g; refine Calls.grown_of (hc _ _)))
          have S2 : Aside (SWK enc k w0 blk off l.toArray (grow (wr.drewN nq) osq)) := S1.out.grown nq osq
          clear l1 l2 hc S1 rd
          generalize grow (wr.drewN nq) osq = wv at S2 ⊢
          clear nq osq
          go_wp2
          go_roundg (r - (c + 1))
          case measure => omega
          case rel =>
            have I2 : Aside ((c + 1 = s0 ∨ ltOf cf l.toArray[mid + m - (c + 1)]! l.toArray[c + 1 - 1]! = false) ∧ (r = mid ∨ ltOf cf l.toArray[mid + m - 1 - r]! l.toArray[r]! = true)) := ⟨.inr (by rw [Nat.add_sub_cancel, show mid + m - (c + 1) = mid + m - 1 - c from by omega, ← HY.out.2.2, ← HY.out.1, ← HY.out.2.1]; exact hdv), I.out.2⟩
            exact ⟨c + 1, r, by go_num, rfl, by omega, by omega, hrr, Nat.le_refl _, S2, I2⟩
      · obtain rfl : r = s := by omega
        obtain ⟨e, he⟩ : ∃ e, e = mid + m - r := ⟨_, rfl⟩
        have ze : (mid : Int) + (m : Int) - (r : Int) = (e : Int) := by omega
        have k1 : a ≤ r := by omega
        have k2 : r ≤ m := by omega
        have k3 : m ≤ e := by omega
        have k4 : e ≤ b := by omega
        have k5 : r ≤ mid := by omega
        have k6 : r + e ≤ mid + m := by omega
        have k7 : mid + m ≤ r + e := by omega
        have hI : (r = a ∨ ltOf cf l.toArray[e]! l.toArray[r - 1]! = false ∨ e = b) ∧ (r = m ∨ ltOf cf l.toArray[e - 1]! l.toArray[r]! = true ∨ e = m) := by
          have h := I.out; rw [← he, show mid + m - 1 - r = e - 1 from by omega] at h
          exact ⟨h.1.elim (fun h => .inr (.inr (by omega))) (fun h => .inr (.inl h)), h.2.elim (fun h => .inr (.inr (by omega))) (fun h => .inr (.inl h))⟩
        clear he I hss hrr hg hlt zs0 g1 g2 g2' g3 gm
        have hnn : ¬ ((r : Int) < (r : Int)) := by omega
        obtain ⟨s, hs_⟩ : ∃ s, s = r := ⟨_, rfl⟩
        subst hs_
        obtain ⟨U1, U2, hU, hU1⟩ : ∃ U1 U2, U = U1 ++ U2 ∧ U1.length = s - a := ⟨U.take (s - a), U.drop (s - a), (List.take_append_drop _ _).symm, by have q := HM.out; simp; omega⟩
        obtain ⟨V1, V2, hV, hV1⟩ : ∃ V1 V2, V = V1 ++ V2 ∧ V1.length = e - m := ⟨V.take (e - m), V.drop (e - m), (List.take_append_drop _ _).symm, by have q := HM.out; simp; omega⟩
        have HQ : Hid (U = U1 ++ U2 ∧ V = V1 ++ V2 ∧ X.length = a ∧ a + U1.length = s ∧ s + U2.length = m ∧ m + V1.length = e ∧ e + V2.length = b ∧ b + Y.length = sz ∧ mid + m = s + e) := by
          have q := HM.out
          have p1 := congrArg List.length hU; have p2 := congrArg List.length hV
          simp at p1 p2
          exact ⟨hU, hV, by omega, by omega, by omega, by omega, by omega, by omega, by omega⟩
        have HU1 : Aside (SortedL (ltOf cf) U1) := by have q := HSU.out; rw [hU] at q; exact SortedL.left (lt := ltOf cf) q
        have HU2 : Aside (SortedL (ltOf cf) U2) := by have q := HSU.out; rw [hU] at q; exact SortedL.right (lt := ltOf cf) q
        have HV1 : Aside (SortedL (ltOf cf) V1) := by have q := HSV.out; rw [hV] at q; exact SortedL.left (lt := ltOf cf) q
        have HV2 : Aside (SortedL (ltOf cf) V2) := by have q := HSV.out; rw [hV] at q; exact SortedL.right (lt := ltOf cf) q
        have HB1 : Aside (∀ u, U2.head? = some u → ∀ v, V1.getLast? = some v → ltOf cf v u = true) := by
          intro u hu v hv
          obtain ⟨V1', rfl⟩ := List.getLast?_eq_some_iff.1 hv
          cases U2 with
          | nil => cases hu
          | cons u' U3 =>
            have hu' : u' = u := by simpa using hu
            subst hu'
            have q := HQ.out
            have h := hI.2
            have h := (h.resolve_left (by simp at q; omega)).resolve_right (by simp at q; omega)
            have e1 : l = (X ++ U1) ++ u' :: (U3 ++ ((V1' ++ [v]) ++ V2) ++ Y) := by rw [HL.out, q.1, q.2.1]; simp
            have e2 : l = (X ++ (U1 ++ u' :: U3) ++ V1') ++ v :: (V2 ++ Y) := by rw [HL.out, q.1, q.2.1]; simp
            have f1 := get_mid (X ++ U1) u' (U3 ++ ((V1' ++ [v]) ++ V2) ++ Y)
            have f2 := get_mid (X ++ (U1 ++ u' :: U3) ++ V1') v (V2 ++ Y)
            rw [← e1, show (X ++ U1).length = s from by simp; omega] at f1
            rw [← e2, show (X ++ (U1 ++ u' :: U3) ++ V1').length = e - 1 from by simp at q ⊢; omega] at f2
            rw [f1, f2] at h
            exact h
        have HB2 : Aside (∀ u, U1.getLast? = some u → ∀ v, V2.head? = some v → ltOf cf v u = false) := by
          intro u hu v hv
          obtain ⟨U1', rfl⟩ := List.getLast?_eq_some_iff.1 hu
          cases V2 with
          | nil => cases hv
          | cons v' V3 =>
            have hv' : v' = v := by simpa using hv
            subst hv'
            have q := HQ.out
            have h := hI.1
            have h := (h.resolve_left (by simp at q; omega)).resolve_right (by simp at q; omega)
            have e1 : l = (X ++ U1') ++ u :: (U2 ++ (V1 ++ v' :: V3) ++ Y) := by rw [HL.out, q.1, q.2.1]; simp
            have e2 : l = (X ++ ((U1' ++ [u]) ++ U2) ++ V1) ++ v' :: (V3 ++ Y) := by rw [HL.out, q.1, q.2.1]; simp
            have f1 := get_mid (X ++ U1') u (U2 ++ (V1 ++ v' :: V3) ++ Y)
            have f2 := get_mid (X ++ ((U1' ++ [u]) ++ U2) ++ V1) v' (V3 ++ Y)
            rw [← e1, show (X ++ U1').length = s - 1 from by simp at q ⊢; omega] at f1
            rw [← e2, show (X ++ ((U1' ++ [u]) ++ U2) ++ V1).length = e from by simp at q ⊢; omega] at f2
            rw [f1, f2] at h
            exact h
        clear hI hU hU1 hV hV1
        by_cases q1 : s < m
        · have _tk : True := trivial
          by_cases q3 : a < s
          · have _tk : True := trivial
            by_cases q6 : e < b
            · have _tk : True := trivial
              by_cases q2 : m < e
              · have _tk : True := trivial
                have c1 : (s : Int) < (m : Int) := by omega
                have c2 : (m : Int) < (e : Int) := by omega
                have c3 : (a : Int) < (s : Int) := by omega
                have c4 : (s : Int) < (mid : Int) := by omega
                have c5 : (mid : Int) < (e : Int) := by omega
                have c6 : (e : Int) < (b : Int) := by omega
                have hr := StRow.rotate L enc g cb blk off cap s m e sz (X ++ U1) U2 V1 (V2 ++ Y) d0 w0 wr R (by have q := HQ.out; simp; omega) (by have q := HQ.out; simp; omega) (by have q := HQ.out; simp; omega) (by have q := HQ.out; omega) (by have q := HQ.out; omega) (by have q := HQ.out; simp; omega) HE.out.2 hbig (by have := S1.out; rw [HL.out, HQ.out.1, HQ.out.2.1] at this; exact StRow.cong this (by simp [List.append_assoc]))
                have HR : Hid (type_of% hr) := hr
                clear hr
                go_wp2_with fail
                refine HR.out.mono ?_
                rintro e1 w1 ⟨rfl, S2⟩
                have SA : Aside (SWK enc k w0 blk off (X ++ (U1 ++ V1) ++ (U2 ++ V2) ++ Y).toArray w1) := StRow.cong S2 (by simp [List.append_assoc])
                clear S2 HR
                have hb := IH2.out (mid - a) (by omega) a s mid X U1 V1 ((U2 ++ V2) ++ Y) w1 (by omega) (by have q := HQ.out; omega) (by have q := HQ.out; omega) (by have q := HQ.out; omega) (by have q := HQ.out; omega) (by have q := HQ.out; omega) (by have q := HQ.out; simp; omega) HU1.out HV1.out (by have := SA.out; exact StRow.cong this (by simp [List.append_assoc]))
                have HB : Hid (type_of% hb) := hb
                clear hb
                go_wp2_with fail
                refine HB.out.mono ?_
                rintro e2 w2 ⟨rfl, LL, S3, q1, q2⟩
                have hLl := (q2.length HO.out).symm
                have SB : Aside (SWK enc k w0 blk off (X ++ LL ++ (U2 ++ V2) ++ Y).toArray w2 ∧ SortedL (ltOf cf) LL ∧ Stab (ltOf cf) (U1 ++ V1) LL ∧ LL.length = U1.length + V1.length) := ⟨StRow.cong S3 (by simp [List.append_assoc]), q1, q2, by rw [hLl]; simp⟩
                clear S3 q1 q2 hLl HB SA
                have hd := IH2.out (b - mid) (by omega) mid e b (X ++ LL) U2 V2 Y w2 (by omega) (by have q := HQ.out; have q2 := SB.out.2.2.2; simp; omega) (by have q := HQ.out; have q2 := SB.out.2.2.2; simp; omega) (by have q := HQ.out; have q2 := SB.out.2.2.2; simp; omega) (by have q := HQ.out; omega) (by have q := HQ.out; omega) (by have q := HQ.out; have q2 := SB.out.2.2.2; simp; omega) HU2.out HV2.out (by have := SB.out.1; exact StRow.cong this (by simp [List.append_assoc]))
                have HD : Hid (type_of% hd) := hd
                clear hd
                go_wp2_with fail
                refine HD.out.mono ?_
                rintro e3 w3 ⟨rfl, RR, S4, q1, q2⟩
                have SC : Aside (SWK enc k w0 blk off (X ++ LL ++ RR ++ Y).toArray w3 ∧ SortedL (ltOf cf) RR ∧ Stab (ltOf cf) (U2 ++ V2) RR) := ⟨StRow.cong S4 (by simp [List.append_assoc]), q1, q2⟩
                clear S4 q1 q2 HD
                go_wp2
                all_goals
                  go_end0
                  have mf := merge_step HO.out U1 U2 V1 V2 LL RR (by rw [← HQ.out.1]; exact HSU.out) (by rw [← HQ.out.2.1]; exact HSV.out) HB1.out HB2.out SB.out.2.1 SC.out.2.1 SB.out.2.2.1 SC.out.2.2
                  exact ⟨rfl, LL ++ RR, by have := SC.out.1; exact StRow.cong this (by simp [List.append_assoc]), mf.1, by rw [HQ.out.1, HQ.out.2.1]; exact mf.2⟩
              · have _tk : True := trivial
                have c1 : (s : Int) < (m : Int) := by omega
                have c2 : ¬ ((m : Int) < (e : Int)) := by omega
                have c3 : (a : Int) < (s : Int) := by omega
                have c4 : ¬ ((s : Int) < (mid : Int)) := by omega
                have c5 : (mid : Int) < (e : Int) := by omega
                have c6 : (e : Int) < (b : Int) := by omega
                have SA : Aside (SWK enc k w0 blk off (X ++ (U1 ++ V1) ++ (U2 ++ V2) ++ Y).toArray wr) := by
                  have hz : V1 = [] := List.eq_nil_of_length_eq_zero (by have q := HQ.out; omega)
                  have := S1.out; rw [HL.out, HQ.out.1, HQ.out.2.1, hz] at this; rw [hz]; exact StRow.cong this (by simp [List.append_assoc])
                obtain ⟨LL, hLL⟩ : ∃ LL, LL = U1 ++ V1 := ⟨_, rfl⟩
                have SB : Aside (SWK enc k w0 blk off (X ++ LL ++ (U2 ++ V2) ++ Y).toArray wr ∧ SortedL (ltOf cf) LL ∧ Stab (ltOf cf) (U1 ++ V1) LL ∧ LL.length = U1.length + V1.length) := by
                  rw [hLL]
                  have hz : V1 = [] := List.eq_nil_of_length_eq_zero (by have q := HQ.out; omega)
                  refine ⟨SA.out, ?_, Stab.refl _, by simp⟩
                  rw [hz]; simpa using HU1.out
                clear hLL
                have hd := IH2.out (b - mid) (by omega) mid e b (X ++ LL) U2 V2 Y wr (by omega) (by have q := HQ.out; have q2 := SB.out.2.2.2; simp; omega) (by have q := HQ.out; have q2 := SB.out.2.2.2; simp; omega) (by have q := HQ.out; have q2 := SB.out.2.2.2; simp; omega) (by have q := HQ.out; omega) (by have q := HQ.out; omega) (by have q := HQ.out; have q2 := SB.out.2.2.2; simp; omega) HU2.out HV2.out (by have := SB.out.1; exact StRow.cong this (by simp [List.append_assoc]))
                have HD : Hid (type_of% hd) := hd
                clear hd
                go_wp2_with fail
                refine HD.out.mono ?_
                rintro e3 w3 ⟨rfl, RR, S4, q1, q2⟩
                have SC : Aside (SWK enc k w0 blk off (X ++ LL ++ RR ++ Y).toArray w3 ∧ SortedL (ltOf cf) RR ∧ Stab (ltOf cf) (U2 ++ V2) RR) := ⟨StRow.cong S4 (by simp [List.append_assoc]), q1, q2⟩
                clear S4 q1 q2 HD
                go_wp2
                all_goals
                  go_end0
                  have mf := merge_step HO.out U1 U2 V1 V2 LL RR (by rw [← HQ.out.1]; exact HSU.out) (by rw [← HQ.out.2.1]; exact HSV.out) HB1.out HB2.out SB.out.2.1 SC.out.2.1 SB.out.2.2.1 SC.out.2.2
                  exact ⟨rfl, LL ++ RR, by have := SC.out.1; exact StRow.cong this (by simp [List.append_assoc]), mf.1, by rw [HQ.out.1, HQ.out.2.1]; exact mf.2⟩
            · have _tk : True := trivial
              by_cases q2 : m < e
              · have _tk : True := trivial
                have c1 : (s : Int) < (m : Int) := by omega
                have c2 : (m : Int) < (e : Int) := by omega
                have c3 : (a : Int) < (s : Int) := by omega
                have c4 : (s : Int) < (mid : Int) := by omega
                have c5 : (mid : Int) < (e : Int) := by omega
                have c6 : ¬ ((e : Int) < (b : Int)) := by omega
                have hr := StRow.rotate L enc g cb blk off cap s m e sz (X ++ U1) U2 V1 (V2 ++ Y) d0 w0 wr R (by have q := HQ.out; simp; omega) (by have q := HQ.out; simp; omega) (by have q := HQ.out; simp; omega) (by have q := HQ.out; omega) (by have q := HQ.out; omega) (by have q := HQ.out; simp; omega) HE.out.2 hbig (by have := S1.out; rw [HL.out, HQ.out.1, HQ.out.2.1] at this; exact StRow.cong this (by simp [List.append_assoc]))
                have HR : Hid (type_of% hr) := hr
                clear hr
                go_wp2_with fail
                refine HR.out.mono ?_
                rintro e1 w1 ⟨rfl, S2⟩
                have SA : Aside (SWK enc k w0 blk off (X ++ (U1 ++ V1) ++ (U2 ++ V2) ++ Y).toArray w1) := StRow.cong S2 (by simp [List.append_assoc])
                clear S2 HR
                have hb := IH2.out (mid - a) (by omega) a s mid X U1 V1 ((U2 ++ V2) ++ Y) w1 (by omega) (by have q := HQ.out; omega) (by have q := HQ.out; omega) (by have q := HQ.out; omega) (by have q := HQ.out; omega) (by have q := HQ.out; omega) (by have q := HQ.out; simp; omega) HU1.out HV1.out (by have := SA.out; exact StRow.cong this (by simp [List.append_assoc]))
                have HB : Hid (type_of% hb) := hb
                clear hb
                go_wp2_with fail
                refine HB.out.mono ?_
                rintro e2 w2 ⟨rfl, LL, S3, q1, q2⟩
                have hLl := (q2.length HO.out).symm
                have SB : Aside (SWK enc k w0 blk off (X ++ LL ++ (U2 ++ V2) ++ Y).toArray w2 ∧ SortedL (ltOf cf) LL ∧ Stab (ltOf cf) (U1 ++ V1) LL ∧ LL.length = U1.length + V1.length) := ⟨StRow.cong S3 (by simp [List.append_assoc]), q1, q2, by rw [hLl]; simp⟩
                clear S3 q1 q2 hLl HB SA
                obtain ⟨RR, hRR⟩ : ∃ RR, RR = U2 ++ V2 := ⟨_, rfl⟩
                have SC : Aside (SWK enc k w0 blk off (X ++ LL ++ RR ++ Y).toArray w2 ∧ SortedL (ltOf cf) RR ∧ Stab (ltOf cf) (U2 ++ V2) RR) := by
                  rw [hRR]
                  have hz : V2 = [] := List.eq_nil_of_length_eq_zero (by have q := HQ.out; omega)
                  refine ⟨SB.out.1, ?_, Stab.refl _⟩
                  rw [hz]; simpa using HU2.out
                clear hRR
                go_wp2
                all_goals
                  go_end0
                  have mf := merge_step HO.out U1 U2 V1 V2 LL RR (by rw [← HQ.out.1]; exact HSU.out) (by rw [← HQ.out.2.1]; exact HSV.out) HB1.out HB2.out SB.out.2.1 SC.out.2.1 SB.out.2.2.1 SC.out.2.2
                  exact ⟨rfl, LL ++ RR, by have := SC.out.1; exact StRow.cong this (by simp [List.append_assoc]), mf.1, by rw [HQ.out.1, HQ.out.2.1]; exact mf.2⟩
              · have _tk : True := trivial
                have c1 : (s : Int) < (m : Int) := by omega
                have c2 : ¬ ((m : Int) < (e : Int)) := by omega
                have c3 : (a : Int) < (s : Int) := by omega
                have c4 : ¬ ((s : Int) < (mid : Int)) := by omega
                have c5 : (mid : Int) < (e : Int) := by omega
                have c6 : ¬ ((e : Int) < (b : Int)) := by omega
                have SA : Aside (SWK enc k w0 blk off (X ++ (U1 ++ V1) ++ (U2 ++ V2) ++ Y).toArray wr) := by
                  have hz : V1 = [] := List.eq_nil_of_length_eq_zero (by have q := HQ.out; omega)
                  have := S1.out; rw [HL.out, HQ.out.1, HQ.out.2.1, hz] at this; rw [hz]; exact StRow.cong this (by simp [List.append_assoc])
                obtain ⟨LL, hLL⟩ : ∃ LL, LL = U1 ++ V1 := ⟨_, rfl⟩
                have SB : Aside (SWK enc k w0 blk off (X ++ LL ++ (U2 ++ V2) ++ Y).toArray wr ∧ SortedL (ltOf cf) LL ∧ Stab (ltOf cf) (U1 ++ V1) LL ∧ LL.length = U1.length + V1.length) := by
                  rw [hLL]
                  have hz : V1 = [] := List.eq_nil_of_length_eq_zero (by have q := HQ.out; omega)
                  refine ⟨SA.out, ?_, Stab.refl _, by simp⟩
                  rw [hz]; simpa using HU1.out
                clear hLL
                obtain ⟨RR, hRR⟩ : ∃ RR, RR = U2 ++ V2 := ⟨_, rfl⟩
                have SC : Aside (SWK enc k w0 blk off (X ++ LL ++ RR ++ Y).toArray wr ∧ SortedL (ltOf cf) RR ∧ Stab (ltOf cf) (U2 ++ V2) RR) := by
                  rw [hRR]
                  have hz : V2 = [] := List.eq_nil_of_length_eq_zero (by have q := HQ.out; omega)
                  refine ⟨SB.out.1, ?_, Stab.refl _⟩
                  rw [hz]; simpa using HU2.out
                clear hRR
                go_wp2
                all_goals
                  go_end0
                  have mf := merge_step HO.out U1 U2 V1 V2 LL RR (by rw [← HQ.out.1]; exact HSU.out) (by rw [← HQ.out.2.1]; exact HSV.out) HB1.out HB2.out SB.out.2.1 SC.out.2.1 SB.out.2.2.1 SC.out.2.2
                  exact ⟨rfl, LL ++ RR, by have := SC.out.1; exact StRow.cong this (by simp [List.append_assoc]), mf.1, by rw [HQ.out.1, HQ.out.2.1]; exact mf.2⟩
          · have _tk : True := trivial
            by_cases q6 : e < b
            · have _tk : True := trivial
              by_cases q2 : m < e
              · have _tk : True := trivial
                have c1 : (s : Int) < (m : Int) := by omega
                have c2 : (m : Int) < (e : Int) := by omega
                have c3 : ¬ ((a : Int) < (s : Int)) := by omega
                have c4 : (s : Int) < (mid : Int) := by omega
                have c5 : (mid : Int) < (e : Int) := by omega
                have c6 : (e : Int) < (b : Int) := by omega
                have hr := StRow.rotate L enc g cb blk off cap s m e sz (X ++ U1) U2 V1 (V2 ++ Y) d0 w0 wr R (by have q := HQ.out; simp; omega) (by have q := HQ.out; simp; omega) (by have q := HQ.out; simp; omega) (by have q := HQ.out; omega) (by have q := HQ.out; omega) (by have q := HQ.out; simp; omega) HE.out.2 hbig (by have := S1.out; rw [HL.out, HQ.out.1, HQ.out.2.1] at this; exact StRow.cong this (by simp [List.append_assoc]))
                have HR : Hid (type_of% hr) := hr
                clear hr
                go_wp2_with fail
                refine HR.out.mono ?_
                rintro e1 w1 ⟨rfl, S2⟩
                have SA : Aside (SWK enc k w0 blk off (X ++ (U1 ++ V1) ++ (U2 ++ V2) ++ Y).toArray w1) := StRow.cong S2 (by simp [List.append_assoc])
                clear S2 HR
                obtain ⟨LL, hLL⟩ : ∃ LL, LL = U1 ++ V1 := ⟨_, rfl⟩
                have SB : Aside (SWK enc k w0 blk off (X ++ LL ++ (U2 ++ V2) ++ Y).toArray w1 ∧ SortedL (ltOf cf) LL ∧ Stab (ltOf cf) (U1 ++ V1) LL ∧ LL.length = U1.length + V1.length) := by
                  rw [hLL]
                  have hz : U1 = [] := List.eq_nil_of_length_eq_zero (by have q := HQ.out; omega)
                  refine ⟨SA.out, ?_, Stab.refl _, by simp⟩
                  rw [hz]; simpa using HV1.out
                clear hLL
                have hd := IH2.out (b - mid) (by omega) mid e b (X ++ LL) U2 V2 Y w1 (by omega) (by have q := HQ.out; have q2 := SB.out.2.2.2; simp; omega) (by have q := HQ.out; have q2 := SB.out.2.2.2; simp; omega) (by have q := HQ.out; have q2 := SB.out.2.2.2; simp; omega) (by have q := HQ.out; omega) (by have q := HQ.out; omega) (by have q := HQ.out; have q2 := SB.out.2.2.2; simp; omega) HU2.out HV2.out (by have := SB.out.1; exact StRow.cong this (by simp [List.append_assoc]))
                have HD : Hid (type_of% hd) := hd
                clear hd
                go_wp2_with fail
                refine HD.out.mono ?_
                rintro e3 w3 ⟨rfl, RR, S4, q1, q2⟩
                have SC : Aside (SWK enc k w0 blk off (X ++ LL ++ RR ++ Y).toArray w3 ∧ SortedL (ltOf cf) RR ∧ Stab (ltOf cf) (U2 ++ V2) RR) := ⟨StRow.cong S4 (by simp [List.append_assoc]), q1, q2⟩
                clear S4 q1 q2 HD
                go_wp2
                all_goals
                  go_end0
                  have mf := merge_step HO.out U1 U2 V1 V2 LL RR (by rw [← HQ.out.1]; exact HSU.out) (by rw [← HQ.out.2.1]; exact HSV.out) HB1.out HB2.out SB.out.2.1 SC.out.2.1 SB.out.2.2.1 SC.out.2.2
                  exact ⟨rfl, LL ++ RR, by have := SC.out.1; exact StRow.cong this (by simp [List.append_assoc]), mf.1, by rw [HQ.out.1, HQ.out.2.1]; exact mf.2⟩
              · have _tk : True := trivial
                have c1 : (s : Int) < (m : Int) := by omega
                have c2 : ¬ ((m : Int) < (e : Int)) := by omega
                have c3 : ¬ ((a : Int) < (s : Int)) := by omega
                have c4 : ¬ ((s : Int) < (mid : Int)) := by omega
                have c5 : (mid : Int) < (e : Int) := by omega
                have c6 : (e : Int) < (b : Int) := by omega
                have SA : Aside (SWK enc k w0 blk off (X ++ (U1 ++ V1) ++ (U2 ++ V2) ++ Y).toArray wr) := by
                  have hz : V1 = [] := List.eq_nil_of_length_eq_zero (by have q := HQ.out; omega)
                  have := S1.out; rw [HL.out, HQ.out.1, HQ.out.2.1, hz] at this; rw [hz]; exact StRow.cong this (by simp [List.append_assoc])
                obtain ⟨LL, hLL⟩ : ∃ LL, LL = U1 ++ V1 := ⟨_, rfl⟩
                have SB : Aside (SWK enc k w0 blk off (X ++ LL ++ (U2 ++ V2) ++ Y).toArray wr ∧ SortedL (ltOf cf) LL ∧ Stab (ltOf cf) (U1 ++ V1) LL ∧ LL.length = U1.length + V1.length) := by
                  rw [hLL]
                  have hz : U1 = [] := List.eq_nil_of_length_eq_zero (by have q := HQ.out; omega)
                  refine ⟨SA.out, ?_, Stab.refl _, by simp⟩
                  rw [hz]; simpa using HV1.out
                clear hLL
                have hd := IH2.out (b - mid) (by omega) mid e b (X ++ LL) U2 V2 Y wr (by omega) (by have q := HQ.out; have q2 := SB.out.2.2.2; simp; omega) (by have q := HQ.out; have q2 := SB.out.2.2.2; simp; omega) (by have q := HQ.out; have q2 := SB.out.2.2.2; simp; omega) (by have q := HQ.out; omega) (by have q := HQ.out; omega) (by have q := HQ.out; have q2 := SB.out.2.2.2; simp; omega) HU2.out HV2.out (by have := SB.out.1; exact StRow.cong this (by simp [List.append_assoc]))
                have HD : Hid (type_of% hd) := hd
                clear hd
                go_wp2_with fail
                refine HD.out.mono ?_
                rintro e3 w3 ⟨rfl, RR, S4, q1, q2⟩
                have SC : Aside (SWK enc k w0 blk off (X ++ LL ++ RR ++ Y).toArray w3 ∧ SortedL (ltOf cf) RR ∧ Stab (ltOf cf) (U2 ++ V2) RR) := ⟨StRow.cong S4 (by simp [List.append_assoc]), q1, q2⟩
                clear S4 q1 q2 HD
                go_wp2
                all_goals
                  go_end0
                  have mf := merge_step HO.out U1 U2 V1 V2 LL RR (by rw [← HQ.out.1]; exact HSU.out) (by rw [← HQ.out.2.1]; exact HSV.out) HB1.out HB2.out SB.out.2.1 SC.out.2.1 SB.out.2.2.1 SC.out.2.2
                  exact ⟨rfl, LL ++ RR, by have := SC.out.1; exact StRow.cong this (by simp [List.append_assoc]), mf.1, by rw [HQ.out.1, HQ.out.2.1]; exact mf.2⟩
            · have _tk : True := trivial
              by_cases q2 : m < e
              · have _tk : True := trivial
                have c1 : (s : Int) < (m : Int) := by omega
                have c2 : (m : Int) < (e : Int) := by omega
                have c3 : ¬ ((a : Int) < (s : Int)) := by omega
                have c4 : (s : Int) < (mid : Int) := by omega
                have c5 : (mid : Int) < (e : Int) := by omega
                have c6 : ¬ ((e : Int) < (b : Int)) := by omega
                have hr := StRow.rotate L enc g cb blk off cap s m e sz (X ++ U1) U2 V1 (V2 ++ Y) d0 w0 wr R (by have q := HQ.out; simp; omega) (by have q := HQ.out; simp; omega) (by have q := HQ.out; simp; omega) (by have q := HQ.out; omega) (by have q := HQ.out; omega) (by have q := HQ.out; simp; omega) HE.out.2 hbig (by have := S1.out; rw [HL.out, HQ.out.1, HQ.out.2.1] at this; exact StRow.cong this (by simp [List.append_assoc]))
                have HR : Hid (type_of% hr) := hr
                clear hr
                go_wp2_with fail
                refine HR.out.mono ?_
                rintro e1 w1 ⟨rfl, S2⟩
                have SA : Aside (SWK enc k w0 blk off (X ++ (U1 ++ V1) ++ (U2 ++ V2) ++ Y).toArray w1) := StRow.cong S2 (by simp [List.append_assoc])
                clear S2 HR
                obtain ⟨LL, hLL⟩ : ∃ LL, LL = U1 ++ V1 := ⟨_, rfl⟩
                have SB : Aside (SWK enc k w0 blk off (X ++ LL ++ (U2 ++ V2) ++ Y).toArray w1 ∧ SortedL (ltOf cf) LL ∧ Stab (ltOf cf) (U1 ++ V1) LL ∧ LL.length = U1.length + V1.length) := by
                  rw [hLL]
                  have hz : U1 = [] := List.eq_nil_of_length_eq_zero (by have q := HQ.out; omega)
                  refine ⟨SA.out, ?_, Stab.refl _, by simp⟩
                  rw [hz]; simpa using HV1.out
                clear hLL
                obtain ⟨RR, hRR⟩ : ∃ RR, RR = U2 ++ V2 := ⟨_, rfl⟩
                have SC : Aside (SWK enc k w0 blk off (X ++ LL ++ RR ++ Y).toArray w1 ∧ SortedL (ltOf cf) RR ∧ Stab (ltOf cf) (U2 ++ V2) RR) := by
                  rw [hRR]
                  have hz : V2 = [] := List.eq_nil_of_length_eq_zero (by have q := HQ.out; omega)
                  refine ⟨SB.out.1, ?_, Stab.refl _⟩
                  rw [hz]; simpa using HU2.out
                clear hRR
                go_wp2
                all_goals
                  go_end0
                  have mf := merge_step HO.out U1 U2 V1 V2 LL RR (by rw [← HQ.out.1]; exact HSU.out) (by rw [← HQ.out.2.1]; exact HSV.out) HB1.out HB2.out SB.out.2.1 SC.out.2.1 SB.out.2.2.1 SC.out.2.2
                  exact ⟨rfl, LL ++ RR, by have := SC.out.1; exact StRow.cong this (by simp [List.append_assoc]), mf.1, by rw [HQ.out.1, HQ.out.2.1]; exact mf.2⟩
              · have _tk : True := trivial
                have c1 : (s : Int) < (m : Int) := by omega
                have c2 : ¬ ((m : Int) < (e : Int)) := by omega
                have c3 : ¬ ((a : Int) < (s : Int)) := by omega
                have c4 : ¬ ((s : Int) < (mid : Int)) := by omega
                have c5 : (mid : Int) < (e : Int) := by omega
                have c6 : ¬ ((e : Int) < (b : Int)) := by omega
                have SA : Aside (SWK enc k w0 blk off (X ++ (U1 ++ V1) ++ (U2 ++ V2) ++ Y).toArray wr) := by
                  have hz : V1 = [] := List.eq_nil_of_length_eq_zero (by have q := HQ.out; omega)
                  have := S1.out; rw [HL.out, HQ.out.1, HQ.out.2.1, hz] at this; rw [hz]; exact StRow.cong this (by simp [List.append_assoc])
                obtain ⟨LL, hLL⟩ : ∃ LL, LL = U1 ++ V1 := ⟨_, rfl⟩
                have SB : Aside (SWK enc k w0 blk off (X ++ LL ++ (U2 ++ V2) ++ Y).toArray wr ∧ SortedL (ltOf cf) LL ∧ Stab (ltOf cf) (U1 ++ V1) LL ∧ LL.length = U1.length + V1.length) := by
                  rw [hLL]
                  have hz : U1 = [] := List.eq_nil_of_length_eq_zero (by have q := HQ.out; omega)
                  refine ⟨SA.out, ?_, Stab.refl _, by simp⟩
                  rw [hz]; simpa using HV1.out
                clear hLL
                obtain ⟨RR, hRR⟩ : ∃ RR, RR = U2 ++ V2 := ⟨_, rfl⟩
                have SC : Aside (SWK enc k w0 blk off (X ++ LL ++ RR ++ Y).toArray wr ∧ SortedL (ltOf cf) RR ∧ Stab (ltOf cf) (U2 ++ V2) RR) := by
                  rw [hRR]
                  have hz : V2 = [] := List.eq_nil_of_length_eq_zero (by have q := HQ.out; omega)
                  refine ⟨SB.out.1, ?_, Stab.refl _⟩
                  rw [hz]; simpa using HU2.out
                clear hRR
                go_wp2
                all_goals
                  go_end0
                  have mf := merge_step HO.out U1 U2 V1 V2 LL RR (by rw [← HQ.out.1]; exact HSU.out) (by rw [← HQ.out.2.1]; exact HSV.out) HB1.out HB2.out SB.out.2.1 SC.out.2.1 SB.out.2.2.1 SC.out.2.2
                  exact ⟨rfl, LL ++ RR, by have := SC.out.1; exact StRow.cong this (by simp [List.append_assoc]), mf.1, by rw [HQ.out.1, HQ.out.2.1]; exact mf.2⟩
        · have _tk : True := trivial
          by_cases q3 : a < s
          · have _tk : True := trivial
            by_cases q6 : e < b
            · have _tk : True := trivial
              by_cases q2 : m < e
              · have _tk : True := trivial
                have c1 : ¬ ((s : Int) < (m : Int)) := by omega
                have c2 : (m : Int) < (e : Int) := by omega
                have c3 : (a : Int) < (s : Int) := by omega
                have c4 : (s : Int) < (mid : Int) := by omega
                have c5 : ¬ ((mid : Int) < (e : Int)) := by omega
                have c6 : (e : Int) < (b : Int) := by omega
                have SA : Aside (SWK enc k w0 blk off (X ++ (U1 ++ V1) ++ (U2 ++ V2) ++ Y).toArray wr) := by
                  have hz : U2 = [] := List.eq_nil_of_length_eq_zero (by have q := HQ.out; omega)
                  have := S1.out; rw [HL.out, HQ.out.1, HQ.out.2.1, hz] at this; rw [hz]; exact StRow.cong this (by simp [List.append_assoc])
                have hb := IH2.out (mid - a) (by omega) a s mid X U1 V1 ((U2 ++ V2) ++ Y) wr (by omega) (by have q := HQ.out; omega) (by have q := HQ.out; omega) (by have q := HQ.out; omega) (by have q := HQ.out; omega) (by have q := HQ.out; omega) (by have q := HQ.out; simp; omega) HU1.out HV1.out (by have := SA.out; exact StRow.cong this (by simp [List.append_assoc]))
                have HB : Hid (type_of% hb) := hb
                clear hb
                go_wp2_with fail
                refine HB.out.mono ?_
                rintro e2 w2 ⟨rfl, LL, S3, q1, q2⟩
                have hLl := (q2.length HO.out).symm
                have SB : Aside (SWK enc k w0 blk off (X ++ LL ++ (U2 ++ V2) ++ Y).toArray w2 ∧ SortedL (ltOf cf) LL ∧ Stab (ltOf cf) (U1 ++ V1) LL ∧ LL.length = U1.length + V1.length) := ⟨StRow.cong S3 (by simp [List.append_assoc]), q1, q2, by rw [hLl]; simp⟩
                clear S3 q1 q2 hLl HB SA
                obtain ⟨RR, hRR⟩ : ∃ RR, RR = U2 ++ V2 := ⟨_, rfl⟩
                have SC : Aside (SWK enc k w0 blk off (X ++ LL ++ RR ++ Y).toArray w2 ∧ SortedL (ltOf cf) RR ∧ Stab (ltOf cf) (U2 ++ V2) RR) := by
                  rw [hRR]
                  have hz : U2 = [] := List.eq_nil_of_length_eq_zero (by have q := HQ.out; omega)
                  refine ⟨SB.out.1, ?_, Stab.refl _⟩
                  rw [hz]; simpa using HV2.out
                clear hRR
                go_wp2
                all_goals
                  go_end0
                  have mf := merge_step HO.out U1 U2 V1 V2 LL RR (by rw [← HQ.out.1]; exact HSU.out) (by rw [← HQ.out.2.1]; exact HSV.out) HB1.out HB2.out SB.out.2.1 SC.out.2.1 SB.out.2.2.1 SC.out.2.2
                  exact ⟨rfl, LL ++ RR, by have := SC.out.1; exact StRow.cong this (by simp [List.append_assoc]), mf.1, by rw [HQ.out.1, HQ.out.2.1]; exact mf.2⟩
              · have _tk : True := trivial
                have c1 : ¬ ((s : Int) < (m : Int)) := by omega
                have c2 : ¬ ((m : Int) < (e : Int)) := by omega
                have c3 : (a : Int) < (s : Int) := by omega
                have c4 : ¬ ((s : Int) < (mid : Int)) := by omega
                have c5 : ¬ ((mid : Int) < (e : Int)) := by omega
                have c6 : (e : Int) < (b : Int) := by omega
                have SA : Aside (SWK enc k w0 blk off (X ++ (U1 ++ V1) ++ (U2 ++ V2) ++ Y).toArray wr) := by
                  have hz : U2 = [] := List.eq_nil_of_length_eq_zero (by have q := HQ.out; omega)
                  have := S1.out; rw [HL.out, HQ.out.1, HQ.out.2.1, hz] at this; rw [hz]; exact StRow.cong this (by simp [List.append_assoc])
                obtain ⟨LL, hLL⟩ : ∃ LL, LL = U1 ++ V1 := ⟨_, rfl⟩
                have SB : Aside (SWK enc k w0 blk off (X ++ LL ++ (U2 ++ V2) ++ Y).toArray wr ∧ SortedL (ltOf cf) LL ∧ Stab (ltOf cf) (U1 ++ V1) LL ∧ LL.length = U1.length + V1.length) := by
                  rw [hLL]
                  have hz : V1 = [] := List.eq_nil_of_length_eq_zero (by have q := HQ.out; omega)
                  refine ⟨SA.out, ?_, Stab.refl _, by simp⟩
                  rw [hz]; simpa using HU1.out
                clear hLL
                obtain ⟨RR, hRR⟩ : ∃ RR, RR = U2 ++ V2 := ⟨_, rfl⟩
                have SC : Aside (SWK enc k w0 blk off (X ++ LL ++ RR ++ Y).toArray wr ∧ SortedL (ltOf cf) RR ∧ Stab (ltOf cf) (U2 ++ V2) RR) := by
                  rw [hRR]
                  have hz : U2 = [] := List.eq_nil_of_length_eq_zero (by have q := HQ.out; omega)
                  refine ⟨SB.out.1, ?_, Stab.refl _⟩
                  rw [hz]; simpa using HV2.out
                clear hRR
                go_wp2
                all_goals
                  go_end0
                  have mf := merge_step HO.out U1 U2 V1 V2 LL RR (by rw [← HQ.out.1]; exact HSU.out) (by rw [← HQ.out.2.1]; exact HSV.out) HB1.out HB2.out SB.out.2.1 SC.out.2.1 SB.out.2.2.1 SC.out.2.2
                  exact ⟨rfl, LL ++ RR, by have := SC.out.1; exact StRow.cong this (by simp [List.append_assoc]), mf.1, by rw [HQ.out.1, HQ.out.2.1]; exact mf.2⟩
            · have _tk : True := trivial
              by_cases q2 : m < e
              · have _tk : True := trivial
                have c1 : ¬ ((s : Int) < (m : Int)) := by omega
                have c2 : (m : Int) < (e : Int) := by omega
                have c3 : (a : Int) < (s : Int) := by omega
                have c4 : (s : Int) < (mid : Int) := by omega
                have c5 : ¬ ((mid : Int) < (e : Int)) := by omega
                have c6 : ¬ ((e : Int) < (b : Int)) := by omega
                have SA : Aside (SWK enc k w0 blk off (X ++ (U1 ++ V1) ++ (U2 ++ V2) ++ Y).toArray wr) := by
                  have hz : U2 = [] := List.eq_nil_of_length_eq_zero (by have q := HQ.out; omega)
                  have := S1.out; rw [HL.out, HQ.out.1, HQ.out.2.1, hz] at this; rw [hz]; exact StRow.cong this (by simp [List.append_assoc])
                have hb := IH2.out (mid - a) (by omega) a s mid X U1 V1 ((U2 ++ V2) ++ Y) wr (by omega) (by have q := HQ.out; omega) (by have q := HQ.out; omega) (by have q := HQ.out; omega) (by have q := HQ.out; omega) (by have q := HQ.out; omega) (by have q := HQ.out; simp; omega) HU1.out HV1.out (by have := SA.out; exact StRow.cong this (by simp [List.append_assoc]))
                have HB : Hid (type_of% hb) := hb
                clear hb
                go_wp2_with fail
                refine HB.out.mono ?_
                rintro e2 w2 ⟨rfl, LL, S3, q1, q2⟩
                have hLl := (q2.length HO.out).symm
                have SB : Aside (SWK enc k w0 blk off (X ++ LL ++ (U2 ++ V2) ++ Y).toArray w2 ∧ SortedL (ltOf cf) LL ∧ Stab (ltOf cf) (U1 ++ V1) LL ∧ LL.length = U1.length + V1.length) := ⟨StRow.cong S3 (by simp [List.append_assoc]), q1, q2, by rw [hLl]; simp⟩
                clear S3 q1 q2 hLl HB SA
                obtain ⟨RR, hRR⟩ : ∃ RR, RR = U2 ++ V2 := ⟨_, rfl⟩
                have SC : Aside (SWK enc k w0 blk off (X ++ LL ++ RR ++ Y).toArray w2 ∧ SortedL (ltOf cf) RR ∧ Stab (ltOf cf) (U2 ++ V2) RR) := by
                  rw [hRR]
                  have hz : U2 = [] := List.eq_nil_of_length_eq_zero (by have q := HQ.out; omega)
                  refine ⟨SB.out.1, ?_, Stab.refl _⟩
                  rw [hz]; simpa using HV2.out
                clear hRR
                go_wp2
                all_goals
                  go_end0
                  have mf := merge_step HO.out U1 U2 V1 V2 LL RR (by rw [← HQ.out.1]; exact HSU.out) (by rw [← HQ.out.2.1]; exact HSV.out) HB1.out HB2.out SB.out.2.1 SC.out.2.1 SB.out.2.2.1 SC.out.2.2
                  exact ⟨rfl, LL ++ RR, by have := SC.out.1; exact StRow.cong this (by simp [List.append_assoc]), mf.1, by rw [HQ.out.1, HQ.out.2.1]; exact mf.2⟩
              · have _tk : True := trivial
                have c1 : ¬ ((s : Int) < (m : Int)) := by omega
                have c2 : ¬ ((m : Int) < (e : Int)) := by omega
                have c3 : (a : Int) < (s : Int) := by omega
                have c4 : ¬ ((s : Int) < (mid : Int)) := by omega
                have c5 : ¬ ((mid : Int) < (e : Int)) := by omega
                have c6 : ¬ ((e : Int) < (b : Int)) := by omega
                have SA : Aside (SWK enc k w0 blk off (X ++ (U1 ++ V1) ++ (U2 ++ V2) ++ Y).toArray wr) := by
                  have hz : U2 = [] := List.eq_nil_of_length_eq_zero (by have q := HQ.out; omega)
                  have := S1.out; rw [HL.out, HQ.out.1, HQ.out.2.1, hz] at this; rw [hz]; exact StRow.cong this (by simp [List.append_assoc])
                obtain ⟨LL, hLL⟩ : ∃ LL, LL = U1 ++ V1 := ⟨_, rfl⟩
                have SB : Aside (SWK enc k w0 blk off (X ++ LL ++ (U2 ++ V2) ++ Y).toArray wr ∧ SortedL (ltOf cf) LL ∧ Stab (ltOf cf) (U1 ++ V1) LL ∧ LL.length = U1.length + V1.length) := by
                  rw [hLL]
                  have hz : V1 = [] := List.eq_nil_of_length_eq_zero (by have q := HQ.out; omega)
                  refine ⟨SA.out, ?_, Stab.refl _, by simp⟩
                  rw [hz]; simpa using HU1.out
                clear hLL
                obtain ⟨RR, hRR⟩ : ∃ RR, RR = U2 ++ V2 := ⟨_, rfl⟩
                have SC : Aside (SWK enc k w0 blk off (X ++ LL ++ RR ++ Y).toArray wr ∧ SortedL (ltOf cf) RR ∧ Stab (ltOf cf) (U2 ++ V2) RR) := by
                  rw [hRR]
                  have hz : U2 = [] := List.eq_nil_of_length_eq_zero (by have q := HQ.out; omega)
                  refine ⟨SB.out.1, ?_, Stab.refl _⟩
                  rw [hz]; simpa using HV2.out
                clear hRR
                go_wp2
                all_goals
                  go_end0
                  have mf := merge_step HO.out U1 U2 V1 V2 LL RR (by rw [← HQ.out.1]; exact HSU.out) (by rw [← HQ.out.2.1]; exact HSV.out) HB1.out HB2.out SB.out.2.1 SC.out.2.1 SB.out.2.2.1 SC.out.2.2
                  exact ⟨rfl, LL ++ RR, by have := SC.out.1; exact StRow.cong this (by simp [List.append_assoc]), mf.1, by rw [HQ.out.1, HQ.out.2.1]; exact mf.2⟩
          · have _tk : True := trivial
            by_cases q6 : e < b
            · have _tk : True := trivial
              by_cases q2 : m < e
              · have _tk : True := trivial
                have c1 : ¬ ((s : Int) < (m : Int)) := by omega
                have c2 : (m : Int) < (e : Int) := by omega
                have c3 : ¬ ((a : Int) < (s : Int)) := by omega
                have c4 : (s : Int) < (mid : Int) := by omega
                have c5 : ¬ ((mid : Int) < (e : Int)) := by omega
                have c6 : (e : Int) < (b : Int) := by omega
                have SA : Aside (SWK enc k w0 blk off (X ++ (U1 ++ V1) ++ (U2 ++ V2) ++ Y).toArray wr) := by
                  have hz : U2 = [] := List.eq_nil_of_length_eq_zero (by have q := HQ.out; omega)
                  have := S1.out; rw [HL.out, HQ.out.1, HQ.out.2.1, hz] at this; rw [hz]; exact StRow.cong this (by simp [List.append_assoc])
                obtain ⟨LL, hLL⟩ : ∃ LL, LL = U1 ++ V1 := ⟨_, rfl⟩
                have SB : Aside (SWK enc k w0 blk off (X ++ LL ++ (U2 ++ V2) ++ Y).toArray wr ∧ SortedL (ltOf cf) LL ∧ Stab (ltOf cf) (U1 ++ V1) LL ∧ LL.length = U1.length + V1.length) := by
                  rw [hLL]
                  have hz : U1 = [] := List.eq_nil_of_length_eq_zero (by have q := HQ.out; omega)
                  refine ⟨SA.out, ?_, Stab.refl _, by simp⟩
                  rw [hz]; simpa using HV1.out
                clear hLL
                obtain ⟨RR, hRR⟩ : ∃ RR, RR = U2 ++ V2 := ⟨_, rfl⟩
                have SC : Aside (SWK enc k w0 blk off (X ++ LL ++ RR ++ Y).toArray wr ∧ SortedL (ltOf cf) RR ∧ Stab (ltOf cf) (U2 ++ V2) RR) := by
                  rw [hRR]
                  have hz : U2 = [] := List.eq_nil_of_length_eq_zero (by have q := HQ.out; omega)
                  refine ⟨SB.out.1, ?_, Stab.refl _⟩
                  rw [hz]; simpa using HV2.out
                clear hRR
                go_wp2
                all_goals
                  go_end0
                  have mf := merge_step HO.out U1 U2 V1 V2 LL RR (by rw [← HQ.out.1]; exact HSU.out) (by rw [← HQ.out.2.1]; exact HSV.out) HB1.out HB2.out SB.out.2.1 SC.out.2.1 SB.out.2.2.1 SC.out.2.2
                  exact ⟨rfl, LL ++ RR, by have := SC.out.1; exact StRow.cong this (by simp [List.append_assoc]), mf.1, by rw [HQ.out.1, HQ.out.2.1]; exact mf.2⟩
              · have _tk : True := trivial
                have c1 : ¬ ((s : Int) < (m : Int)) := by omega
                have c2 : ¬ ((m : Int) < (e : Int)) := by omega
                have c3 : ¬ ((a : Int) < (s : Int)) := by omega
                have c4 : ¬ ((s : Int) < (mid : Int)) := by omega
                have c5 : ¬ ((mid : Int) < (e : Int)) := by omega
                have c6 : (e : Int) < (b : Int) := by omega
                have SA : Aside (SWK enc k w0 blk off (X ++ (U1 ++ V1) ++ (U2 ++ V2) ++ Y).toArray wr) := by
                  have hz : U2 = [] := List.eq_nil_of_length_eq_zero (by have q := HQ.out; omega)
                  have := S1.out; rw [HL.out, HQ.out.1, HQ.out.2.1, hz] at this; rw [hz]; exact StRow.cong this (by simp [List.append_assoc])
                obtain ⟨LL, hLL⟩ : ∃ LL, LL = U1 ++ V1 := ⟨_, rfl⟩
                have SB : Aside (SWK enc k w0 blk off (X ++ LL ++ (U2 ++ V2) ++ Y).toArray wr ∧ SortedL (ltOf cf) LL ∧ Stab (ltOf cf) (U1 ++ V1) LL ∧ LL.length = U1.length + V1.length) := by
                  rw [hLL]
                  have hz : U1 = [] := List.eq_nil_of_length_eq_zero (by have q := HQ.out; omega)
                  refine ⟨SA.out, ?_, Stab.refl _, by simp⟩
                  rw [hz]; simpa using HV1.out
                clear hLL
                obtain ⟨RR, hRR⟩ : ∃ RR, RR = U2 ++ V2 := ⟨_, rfl⟩
                have SC : Aside (SWK enc k w0 blk off (X ++ LL ++ RR ++ Y).toArray wr ∧ SortedL (ltOf cf) RR ∧ Stab (ltOf cf) (U2 ++ V2) RR) := by
                  rw [hRR]
                  have hz : U2 = [] := List.eq_nil_of_length_eq_zero (by have q := HQ.out; omega)
                  refine ⟨SB.out.1, ?_, Stab.refl _⟩
                  rw [hz]; simpa using HV2.out
                clear hRR
                go_wp2
                all_goals
                  go_end0
                  have mf := merge_step HO.out U1 U2 V1 V2 LL RR (by rw [← HQ.out.1]; exact HSU.out) (by rw [← HQ.out.2.1]; exact HSV.out) HB1.out HB2.out SB.out.2.1 SC.out.2.1 SB.out.2.2.1 SC.out.2.2
                  exact ⟨rfl, LL ++ RR, by have := SC.out.1; exact StRow.cong this (by simp [List.append_assoc]), mf.1, by rw [HQ.out.1, HQ.out.2.1]; exact mf.2⟩
            · have _tk : True := trivial
              by_cases q2 : m < e
              · have _tk : True := trivial
                have c1 : ¬ ((s : Int) < (m : Int)) := by omega
                have c2 : (m : Int) < (e : Int) := by omega
                have c3 : ¬ ((a : Int) < (s : Int)) := by omega
                have c4 : (s : Int) < (mid : Int) := by omega
                have c5 : ¬ ((mid : Int) < (e : Int)) := by omega
                have c6 : ¬ ((e : Int) < (b : Int)) := by omega
                have SA : Aside (SWK enc k w0 blk off (X ++ (U1 ++ V1) ++ (U2 ++ V2) ++ Y).toArray wr) := by
                  have hz : U2 = [] := List.eq_nil_of_length_eq_zero (by have q := HQ.out; omega)
                  have := S1.out; rw [HL.out, HQ.out.1, HQ.out.2.1, hz] at this; rw [hz]; exact StRow.cong this (by simp [List.append_assoc])
                obtain ⟨LL, hLL⟩ : ∃ LL, LL = U1 ++ V1 := ⟨_, rfl⟩
                have SB : Aside (SWK enc k w0 blk off (X ++ LL ++ (U2 ++ V2) ++ Y).toArray wr ∧ SortedL (ltOf cf) LL ∧ Stab (ltOf cf) (U1 ++ V1) LL ∧ LL.length = U1.length + V1.length) := by
                  rw [hLL]
                  have hz : U1 = [] := List.eq_nil_of_length_eq_zero (by have q := HQ.out; omega)
                  refine ⟨SA.out, ?_, Stab.refl _, by simp⟩
                  rw [hz]; simpa using HV1.out
                clear hLL
                obtain ⟨RR, hRR⟩ : ∃ RR, RR = U2 ++ V2 := ⟨_, rfl⟩
                have SC : Aside (SWK enc k w0 blk off (X ++ LL ++ RR ++ Y).toArray wr ∧ SortedL (ltOf cf) RR ∧ Stab (ltOf cf) (U2 ++ V2) RR) := by
                  rw [hRR]
                  have hz : U2 = [] := List.eq_nil_of_length_eq_zero (by have q := HQ.out; omega)
                  refine ⟨SB.out.1, ?_, Stab.refl _⟩
                  rw [hz]; simpa using HV2.out
                clear hRR
                go_wp2
                all_goals
                  go_end0
                  have mf := merge_step HO.out U1 U2 V1 V2 LL RR (by rw [← HQ.out.1]; exact HSU.out) (by rw [← HQ.out.2.1]; exact HSV.out) HB1.out HB2.out SB.out.2.1 SC.out.2.1 SB.out.2.2.1 SC.out.2.2
                  exact ⟨rfl, LL ++ RR, by have := SC.out.1; exact StRow.cong this (by simp [List.append_assoc]), mf.1, by rw [HQ.out.1, HQ.out.2.1]; exact mf.2⟩
              · have _tk : True := trivial
                have c1 : ¬ ((s : Int) < (m : Int)) := by omega
                have c2 : ¬ ((m : Int) < (e : Int)) := by omega
                have c3 : ¬ ((a : Int) < (s : Int)) := by omega
                have c4 : ¬ ((s : Int) < (mid : Int)) := by omega
                have c5 : ¬ ((mid : Int) < (e : Int)) := by omega
                have c6 : ¬ ((e : Int) < (b : Int)) := by omega
                have SA : Aside (SWK enc k w0 blk off (X ++ (U1 ++ V1) ++ (U2 ++ V2) ++ Y).toArray wr) := by
                  have hz : U2 = [] := List.eq_nil_of_length_eq_zero (by have q := HQ.out; omega)
                  have := S1.out; rw [HL.out, HQ.out.1, HQ.out.2.1, hz] at this; rw [hz]; exact StRow.cong this (by simp [List.append_assoc])
                obtain ⟨LL, hLL⟩ : ∃ LL, LL = U1 ++ V1 := ⟨_, rfl⟩
                have SB : Aside (SWK enc k w0 blk off (X ++ LL ++ (U2 ++ V2) ++ Y).toArray wr ∧ SortedL (ltOf cf) LL ∧ Stab (ltOf cf) (U1 ++ V1) LL ∧ LL.length = U1.length + V1.length) := by
                  rw [hLL]
                  have hz : U1 = [] := List.eq_nil_of_length_eq_zero (by have q := HQ.out; omega)
                  refine ⟨SA.out, ?_, Stab.refl _, by simp⟩
                  rw [hz]; simpa using HV1.out
                clear hLL
                obtain ⟨RR, hRR⟩ : ∃ RR, RR = U2 ++ V2 := ⟨_, rfl⟩
                have SC : Aside (SWK enc k w0 blk off (X ++ LL ++ RR ++ Y).toArray wr ∧ SortedL (ltOf cf) RR ∧ Stab (ltOf cf) (U2 ++ V2) RR) := by
                  rw [hRR]
                  have hz : U2 = [] := List.eq_nil_of_length_eq_zero (by have q := HQ.out; omega)
                  refine ⟨SB.out.1, ?_, Stab.refl _⟩
                  rw [hz]; simpa using HV2.out
                clear hRR
                go_wp2
                all_goals
                  go_end0
                  have mf := merge_step HO.out U1 U2 V1 V2 LL RR (by rw [← HQ.out.1]; exact HSU.out) (by rw [← HQ.out.2.1]; exact HSV.out) HB1.out HB2.out SB.out.2.1 SC.out.2.1 SB.out.2.2.1 SC.out.2.2
                  exact ⟨rfl, LL ++ RR, by have := SC.out.1; exact StRow.cong this (by simp [List.append_assoc]), mf.1, by rw [HQ.out.1, HQ.out.2.1]; exact mf.2⟩
  · go_enter L.fsym, Try.ntmps50
    have gm : ¬ ((mid : Int) < (m : Int)) := by omega
    go_wp2
    go_loopg [20, 21] (m - a) (fun gk s20 s21 wr => ∃ s r : Nat, s20 = .int .i64 s ∧ s21 = .int .i64 r ∧ a ≤ s ∧ s ≤ r ∧ r ≤ m ∧ r - s ≤ gk ∧ Aside (SWK enc k w0 blk off l.toArray wr) ∧
      Aside ((s = a ∨ ltOf cf l.toArray[mid + m - s]! l.toArray[s - 1]! = false) ∧ (r = m ∨ ltOf cf l.toArray[mid + m - 1 - r]! l.toArray[r]! = true)))
    case atStart => exact ⟨a, m, rfl, rfl, Nat.le_refl _, by omega, Nat.le_refl _, Nat.le_refl _, S0, ⟨.inl rfl, .inl rfl⟩⟩
    case round =>
      clear S0
      obtain ⟨s, r, rfl, rfl, hss, hsr, hrr, hg, S1, I⟩ := hrel
      by_cases hlt : s < r
      · obtain ⟨c, hh⟩ : ∃ c, c = (s + r) / 2 := ⟨_, rfl⟩
        have hz1 : ((s : Int) + (r : Int)) / 2 = (c : Int) := by omega
        have hsc : s ≤ c := by omega
        have hcr : c < r := by omega
        clear hh
        obtain ⟨d, hd⟩ : ∃ d, d = mid + m - 1 - c := ⟨_, rfl⟩
        have hz2 : (mid : Int) + (m : Int) - 1 - (c : Int) = (d : Int) := by omega
        have hdb : d < b := by omega
        have hltz : (s : Int) < (r : Int) := by omega
        have hsz := HE.out.1
        have l1 := S1.out.ld R (by rw [hsz]; exact HE.out.2.symm) P d (by rw [hsz]; omega)
        have l2 := S1.out.ld R (by rw [hsz]; exact HE.out.2.symm) P c (by rw [hsz]; omega)
        obtain ⟨y, hy⟩ : ∃ y, y = l.toArray[d]! := ⟨_, rfl⟩
        obtain ⟨x1, hx1⟩ : ∃ y, y = l.toArray[c]! := ⟨_, rfl⟩
        rw [← hy] at l1
        rw [← hx1] at l2
        have hc := S1.out.cmp HC.out hsz y x1
        have HY : Hid (y = l.toArray[d]! ∧ x1 = l.toArray[c]! ∧ d = mid + m - 1 - c) := ⟨hy, hx1, hd⟩
        clear hsz hy hx1 hd
        have pa1 : (0 : Int) ≤ (d : Int) := by omega
        have ba1 : (d : Int) < (sz : Int) := by omega
        have pa2 : (0 : Int) ≤ (c : Int) := by omega
        have ba2 : (c : Int) < (sz : Int) := by omega
        have rd : IntKind.i64.wrap (d : Int) = (d : Int) := by rw [IntKind.wrap_i64]; omega
        by_cases hlv : cf y x1 < 0
        · have hdv : decide (cf y x1 < 0) = true := decide_eq_true hlv
          go_wp2_with fail
          go_quiet_grown (first | (go_at_fn g; refine Calls.grown_of (hc _ _)))
          have S2 : Aside (SWK enc k w0 blk off l.toArray (grow (wr.drewN nq) osq)) := S1.out.grown nq osq
          clear l1 l2 hc S1 rd
          generalize grow (wr.drewN nq) osq = wv at S2 ⊢
          clear nq osq
          go_wp2
          go_roundg (c - s)
          case measure => omega
          case rel =>
            have I2 : Aside ((s = a ∨ ltOf cf l.toArray[mid + m - s]! l.toArray[s - 1]! = false) ∧ (c = m ∨ ltOf cf l.toArray[mid + m - 1 - c]! l.toArray[c]! = true)) := ⟨I.out.1, .inr (by rw [← HY.out.2.2, ← HY.out.1, ← HY.out.2.1]; exact hdv)⟩
            exact ⟨s, c, rfl, rfl, hss, hsc, by omega, Nat.le_refl _, S2, I2⟩
        -- not less
        · have hdv : decide (cf y x1 < 0) = false := decide_eq_false hlv
          go_wp2_with fail
          go_quiet_grown (first | (go_at_fn g; refine Calls.grown_of (hc _ _)))
          have S2 : Aside (SWK enc k w0 blk off l.toArray (grow (wr.drewN nq) osq)) := S1.out.grown nq osq
          clear l1 l2 hc S1 rd
          generalize grow (wr.drewN nq) osq = wv at S2 ⊢
          clear nq osq
          go_wp2
          go_roundg (r - (c + 1))
          case measure => omega
          case rel =>
            have I2 : Aside ((c + 1 = a ∨ ltOf cf l.toArray[mid + m - (c + 1)]! l.toArray[c + 1 - 1]! = false) ∧ (r = m ∨ ltOf cf l.toArray[mid + m - 1 - r]! l.toArray[r]! = true)) := ⟨.inr (by rw [Nat.add_sub_cancel, show mid + m - (c + 1) = mid + m - 1 - c from by omega, ← HY.out.2.2, ← HY.out.1, ← HY.out.2.1]; exact hdv), I.out.2⟩
            exact ⟨c + 1, r, by go_num, rfl, by omega, by omega, hrr, Nat.le_refl _, S2, I2⟩
      · obtain rfl : r = s := by omega
        obtain ⟨e, he⟩ : ∃ e, e = mid + m - r := ⟨_, rfl⟩
        have ze : (mid : Int) + (m : Int) - (r : Int) = (e : Int) := by omega
        have k1 : a ≤ r := by omega
        have k2 : r ≤ m := by omega
        have k3 : m ≤ e := by omega
        have k4 : e ≤ b := by omega
        have k5 : r ≤ mid := by omega
        have k6 : r + e ≤ mid + m := by omega
        have k7 : mid + m ≤ r + e := by omega
        have hI : (r = a ∨ ltOf cf l.toArray[e]! l.toArray[r - 1]! = false ∨ e = b) ∧ (r = m ∨ ltOf cf l.toArray[e - 1]! l.toArray[r]! = true ∨ e = m) := by
          have h := I.out; rw [← he, show mid + m - 1 - r = e - 1 from by omega] at h
          exact ⟨h.1.elim (fun h => .inl h) (fun h => .inr (.inl h)), h.2.elim (fun h => .inl h) (fun h => .inr (.inl h))⟩
        clear he I hss hrr hg hlt gm
        have hnn : ¬ ((r : Int) < (r : Int)) := by omega
        obtain ⟨s, hs_⟩ : ∃ s, s = r := ⟨_, rfl⟩
        subst hs_
        obtain ⟨U1, U2, hU, hU1⟩ : ∃ U1 U2, U = U1 ++ U2 ∧ U1.length = s - a := ⟨U.take (s - a), U.drop (s - a), (List.take_append_drop _ _).symm, by have q := HM.out; simp; omega⟩
        obtain ⟨V1, V2, hV, hV1⟩ : ∃ V1 V2, V = V1 ++ V2 ∧ V1.length = e - m := ⟨V.take (e - m), V.drop (e - m), (List.take_append_drop _ _).symm, by have q := HM.out; simp; omega⟩
        have HQ : Hid (U = U1 ++ U2 ∧ V = V1 ++ V2 ∧ X.length = a ∧ a + U1.length = s ∧ s + U2.length = m ∧ m + V1.length = e ∧ e + V2.length = b ∧ b + Y.length = sz ∧ mid + m = s + e) := by
          have q := HM.out
          have p1 := congrArg List.length hU; have p2 := congrArg List.length hV
          simp at p1 p2
          exact ⟨hU, hV, by omega, by omega, by omega, by omega, by omega, by omega, by omega⟩
        have HU1 : Aside (SortedL (ltOf cf) U1) := by have q := HSU.out; rw [hU] at q; exact SortedL.left (lt := ltOf cf) q
        have HU2 : Aside (SortedL (ltOf cf) U2) := by have q := HSU.out; rw [hU] at q; exact SortedL.right (lt := ltOf cf) q
        have HV1 : Aside (SortedL (ltOf cf) V1) := by have q := HSV.out; rw [hV] at q; exact SortedL.left (lt := ltOf cf) q
        have HV2 : Aside (SortedL (ltOf cf) V2) := by have q := HSV.out; rw [hV] at q; exact SortedL.right (lt := ltOf cf) q
        have HB1 : Aside (∀ u, U2.head? = some u → ∀ v, V1.getLast? = some v → ltOf cf v u = true) := by
          intro u hu v hv
          obtain ⟨V1', rfl⟩ := List.getLast?_eq_some_iff.1 hv
          cases U2 with
          | nil => cases hu
          | cons u' U3 =>
            have hu' : u' = u := by simpa using hu
            subst hu'
            have q := HQ.out
            have h := hI.2
            have h := (h.resolve_left (by simp at q; omega)).resolve_right (by simp at q; omega)
            have e1 : l = (X ++ U1) ++ u' :: (U3 ++ ((V1' ++ [v]) ++ V2) ++ Y) := by rw [HL.out, q.1, q.2.1]; simp
            have e2 : l = (X ++ (U1 ++ u' :: U3) ++ V1') ++ v :: (V2 ++ Y) := by rw [HL.out, q.1, q.2.1]; simp
            have f1 := get_mid (X ++ U1) u' (U3 ++ ((V1' ++ [v]) ++ V2) ++ Y)
            have f2 := get_mid (X ++ (U1 ++ u' :: U3) ++ V1') v (V2 ++ Y)
            rw [← e1, show (X ++ U1).length = s from by simp; omega] at f1
            rw [← e2, show (X ++ (U1 ++ u' :: U3) ++ V1').length = e - 1 from by simp at q ⊢; omega] at f2
            rw [f1, f2] at h
            exact h
        have HB2 : Aside (∀ u, U1.getLast? = some u → ∀ v, V2.head? = some v → ltOf cf v u = false) := by
          intro u hu v hv
          obtain ⟨U1', rfl⟩ := List.getLast?_eq_some_iff.1 hu
          cases V2 with
          | nil => cases hv
          | cons v' V3 =>
            have hv' : v' = v := by simpa using hv
            subst hv'
            have q := HQ.out
            have h := hI.1
            have h := (h.resolve_left (by simp at q; omega)).resolve_right (by simp at q; omega)
            have e1 : l = (X ++ U1') ++ u :: (U2 ++ (V1 ++ v' :: V3) ++ Y) := by rw [HL.out, q.1, q.2.1]; simp
            have e2 : l = (X ++ ((U1' ++ [u]) ++ U2) ++ V1) ++ v' :: (V3 ++ Y) := by rw [HL.out, q.1, q.2.1]; simp
            have f1 := get_mid (X ++ U1') u (U2 ++ (V1 ++ v' :: V3) ++ Y)
            have f2 := get_mid (X ++ ((U1' ++ [u]) ++ U2) ++ V1) v' (V3 ++ Y)
            rw [← e1, show (X ++ U1').length = s - 1 from by simp at q ⊢; omega] at f1
            rw [← e2, show (X ++ ((U1' ++ [u]) ++ U2) ++ V1).length = e from by simp at q ⊢; omega] at f2
            rw [f1, f2] at h
            exact h
        clear hI hU hU1 hV hV1
        by_cases q1 : s < m
        · have _tk : True := trivial
          by_cases q3 : a < s
          · have _tk : True := trivial
            by_cases q6 : e < b
            · have _tk : True := trivial
              by_cases q2 : m < e
              · have _tk : True := trivial
                have c1 : (s : Int) < (m : Int) := by omega
                have c2 : (m : Int) < (e : Int) := by omega
                have c3 : (a : Int) < (s : Int) := by omega
                have c4 : (s : Int) < (mid : Int) := by omega
                have c5 : (mid : Int) < (e : Int) := by omega
                have c6 : (e : Int) < (b : Int) := by omega
                have hr := StRow.rotate L enc g cb blk off cap s m e sz (X ++ U1) U2 V1 (V2 ++ Y) d0 w0 wr R (by have q := HQ.out; simp; omega) (by have q := HQ.out; simp; omega) (by have q := HQ.out; simp; omega) (by have q := HQ.out; omega) (by have q := HQ.out; omega) (by have q := HQ.out; simp; omega) HE.out.2 hbig (by have := S1.out; rw [HL.out, HQ.out.1, HQ.out.2.1] at this; exact StRow.cong this (by simp [List.append_assoc]))
                have HR : Hid (type_of% hr) := hr
                clear hr
                go_wp2_with fail
                refine HR.out.mono ?_
                rintro e1 w1 ⟨rfl, S2⟩
                have SA : Aside (SWK enc k w0 blk off (X ++ (U1 ++ V1) ++ (U2 ++ V2) ++ Y).toArray w1) := StRow.cong S2 (by simp [List.append_assoc])
                clear S2 HR
                have hb := IH2.out (mid - a) (by omega) a s mid X U1 V1 ((U2 ++ V2) ++ Y) w1 (by omega) (by have q := HQ.out; omega) (by have q := HQ.out; omega) (by have q := HQ.out; omega) (by have q := HQ.out; omega) (by have q := HQ.out; omega) (by have q := HQ.out; simp; omega) HU1.out HV1.out (by have := SA.out; exact StRow.cong this (by simp [List.append_assoc]))
                have HB : Hid (type_of% hb) := hb
                clear hb
                go_wp2_with fail
                refine HB.out.mono ?_
                rintro e2 w2 ⟨rfl, LL, S3, q1, q2⟩
                have hLl := (q2.length HO.out).symm
                have SB : Aside (SWK enc k w0 blk off (X ++ LL ++ (U2 ++ V2) ++ Y).toArray w2 ∧ SortedL (ltOf cf) LL ∧ Stab (ltOf cf) (U1 ++ V1) LL ∧ LL.length = U1.length + V1.length) := ⟨StRow.cong S3 (by simp [List.append_assoc]), q1, q2, by rw [hLl]; simp⟩
                clear S3 q1 q2 hLl HB SA
                have hd := IH2.out (b - mid) (by omega) mid e b (X ++ LL) U2 V2 Y w2 (by omega) (by have q := HQ.out; have q2 := SB.out.2.2.2; simp; omega) (by have q := HQ.out; have q2 := SB.out.2.2.2; simp; omega) (by have q := HQ.out; have q2 := SB.out.2.2.2; simp; omega) (by have q := HQ.out; omega) (by have q := HQ.out; omega) (by have q := HQ.out; have q2 := SB.out.2.2.2; simp; omega) HU2.out HV2.out (by have := SB.out.1; exact StRow.cong this (by simp [List.append_assoc]))
                have HD : Hid (type_of% hd) := hd
                clear hd
                go_wp2_with fail
                refine HD.out.mono ?_
                rintro e3 w3 ⟨rfl, RR, S4, q1, q2⟩
                have SC : Aside (SWK enc k w0 blk off (X ++ LL ++ RR ++ Y).toArray w3 ∧ SortedL (ltOf cf) RR ∧ Stab (ltOf cf) (U2 ++ V2) RR) := ⟨StRow.cong S4 (by simp [List.append_assoc]), q1, q2⟩
                clear S4 q1 q2 HD
                go_wp2
                all_goals
                  go_end0
                  have mf := merge_step HO.out U1 U2 V1 V2 LL RR (by rw [← HQ.out.1]; exact HSU.out) (by rw [← HQ.out.2.1]; exact HSV.out) HB1.out HB2.out SB.out.2.1 SC.out.2.1 SB.out.2.2.1 SC.out.2.2
                  exact ⟨rfl, LL ++ RR, by have := SC.out.1; exact StRow.cong this (by simp [List.append_assoc]), mf.1, by rw [HQ.out.1, HQ.out.2.1]; exact mf.2⟩
              · have _tk : True := trivial
                have c1 : (s : Int) < (m : Int) := by omega
                have c2 : ¬ ((m : Int) < (e : Int)) := by omega
                have c3 : (a : Int) < (s : Int) := by omega
                have c4 : ¬ ((s : Int) < (mid : Int)) := by omega
                have c5 : (mid : Int) < (e : Int) := by omega
                have c6 : (e : Int) < (b : Int) := by omega
                have SA : Aside (SWK enc k w0 blk off (X ++ (U1 ++ V1) ++ (U2 ++ V2) ++ Y).toArray wr) := by
                  have hz : V1 = [] := List.eq_nil_of_length_eq_zero (by have q := HQ.out; omega)
                  have := S1.out; rw [HL.out, HQ.out.1, HQ.out.2.1, hz] at this; rw [hz]; exact StRow.cong this (by simp [List.append_assoc])
                obtain ⟨LL, hLL⟩ : ∃ LL, LL = U1 ++ V1 := ⟨_, rfl⟩
                have SB : Aside (SWK enc k w0 blk off (X ++ LL ++ (U2 ++ V2) ++ Y).toArray wr ∧ SortedL (ltOf cf) LL ∧ Stab (ltOf cf) (U1 ++ V1) LL ∧ LL.length = U1.length + V1.length) := by
                  rw [hLL]
                  have hz : V1 = [] := List.eq_nil_of_length_eq_zero (by have q := HQ.out; omega)
                  refine ⟨SA.out, ?_, Stab.refl _, by simp⟩
                  rw [hz]; simpa using HU1.out
                clear hLL
                have hd := IH2.out (b - mid) (by omega) mid e b (X ++ LL) U2 V2 Y wr (by omega) (by have q := HQ.out; have q2 := SB.out.2.2.2; simp; omega) (by have q := HQ.out; have q2 := SB.out.2.2.2; simp; omega) (by have q := HQ.out; have q2 := SB.out.2.2.2; simp; omega) (by have q := HQ.out; omega) (by have q := HQ.out; omega) (by have q := HQ.out; have q2 := SB.out.2.2.2; simp; omega) HU2.out HV2.out (by have := SB.out.1; exact StRow.cong this (by simp [List.append_assoc]))
                have HD : Hid (type_of% hd) := hd
                clear hd
                go_wp2_with fail
                refine HD.out.mono ?_
                rintro e3 w3 ⟨rfl, RR, S4, q1, q2⟩
                have SC : Aside (SWK enc k w0 blk off (X ++ LL ++ RR ++ Y).toArray w3 ∧ SortedL (ltOf cf) RR ∧ Stab (ltOf cf) (U2 ++ V2) RR) := ⟨StRow.cong S4 (by simp [List.append_assoc]), q1, q2⟩
                clear S4 q1 q2 HD
                go_wp2
                all_goals
                  go_end0
                  have mf := merge_step HO.out U1 U2 V1 V2 LL RR (by rw [← HQ.out.1]; exact HSU.out) (by rw [← HQ.out.2.1]; exact HSV.out) HB1.out HB2.out SB.out.2.1 SC.out.2.1 SB.out.2.2.1 SC.out.2.2
                  exact ⟨rfl, LL ++ RR, by have := SC.out.1; exact StRow.cong this (by simp [List.append_assoc]), mf.1, by rw [HQ.out.1, HQ.out.2.1]; exact mf.2⟩
            · have _tk : True := trivial
              by_cases q2 : m < e
              · have _tk : True := trivial
                have c1 : (s : Int) < (m : Int) := by omega
                have c2 : (m : Int) < (e : Int) := by omega
                have c3 : (a : Int) < (s : Int) := by omega
                have c4 : (s : Int) < (mid : Int) := by omega
                have c5 : (mid : Int) < (e : Int) := by omega
                have c6 : ¬ ((e : Int) < (b : Int)) := by omega
                have hr := StRow.rotate L enc g cb blk off cap s m e sz (X ++ U1) U2 V1 (V2 ++ Y) d0 w0 wr R (by have q := HQ.out; simp; omega) (by have q := HQ.out; simp; omega) (by have q := HQ.out; simp; omega) (by have q := HQ.out; omega) (by have q := HQ.out; omega) (by have q := HQ.out; simp; omega) HE.out.2 hbig (by have := S1.out; rw [HL.out, HQ.out.1, HQ.out.2.1] at this; exact StRow.cong this (by simp [List.append_assoc]))
                have HR : Hid (type_of% hr) := hr
                clear hr
                go_wp2_with fail
                refine HR.out.mono ?_
                rintro e1 w1 ⟨rfl, S2⟩
                have SA : Aside (SWK enc k w0 blk off (X ++ (U1 ++ V1) ++ (U2 ++ V2) ++ Y).toArray w1) := StRow.cong S2 (by simp [List.append_assoc])
                clear S2 HR
                have hb := IH2.out (mid - a) (by omega) a s mid X U1 V1 ((U2 ++ V2) ++ Y) w1 (by omega) (by have q := HQ.out; omega) (by have q := HQ.out; omega) (by have q := HQ.out; omega) (by have q := HQ.out; omega) (by have q := HQ.out; omega) (by have q := HQ.out; simp; omega) HU1.out HV1.out (by have := SA.out; exact StRow.cong this (by simp [List.append_assoc]))
                have HB : Hid (type_of% hb) := hb
                clear hb
                go_wp2_with fail
                refine HB.out.mono ?_
                rintro e2 w2 ⟨rfl, LL, S3, q1, q2⟩
                have hLl := (q2.length HO.out).symm
                have SB : Aside (SWK enc k w0 blk off (X ++ LL ++ (U2 ++ V2) ++ Y).toArray w2 ∧ SortedL (ltOf cf) LL ∧ Stab (ltOf cf) (U1 ++ V1) LL ∧ LL.length = U1.length + V1.length) := ⟨StRow.cong S3 (by simp [List.append_assoc]), q1, q2, by rw [hLl]; simp⟩
                clear S3 q1 q2 hLl HB SA
                obtain ⟨RR, hRR⟩ : ∃ RR, RR = U2 ++ V2 := ⟨_, rfl⟩
                have SC : Aside (SWK enc k w0 blk off (X ++ LL ++ RR ++ Y).toArray w2 ∧ SortedL (ltOf cf) RR ∧ Stab (ltOf cf) (U2 ++ V2) RR) := by
                  rw [hRR]
                  have hz : V2 = [] := List.eq_nil_of_length_eq_zero (by have q := HQ.out; omega)
                  refine ⟨SB.out.1, ?_, Stab.refl _⟩
                  rw [hz]; simpa using HU2.out
                clear hRR
                go_wp2
                all_goals
                  go_end0
                  have mf := merge_step HO.out U1 U2 V1 V2 LL RR (by rw [← HQ.out.1]; exact HSU.out) (by rw [← HQ.out.2.1]; exact HSV.out) HB1.out HB2.out SB.out.2.1 SC.out.2.1 SB.out.2.2.1 SC.out.2.2
                  exact ⟨rfl, LL ++ RR, by have := SC.out.1; exact StRow.cong this (by simp [List.append_assoc]), mf.1, by rw [HQ.out.1, HQ.out.2.1]; exact mf.2⟩
              · have _tk : True := trivial
                have c1 : (s : Int) < (m : Int) := by omega
                have c2 : ¬ ((m : Int) < (e : Int)) := by omega
                have c3 : (a : Int) < (s : Int) := by omega
                have c4 : ¬ ((s : Int) < (mid : Int)) := by omega
                have c5 : (mid : Int) < (e : Int) := by omega
                have c6 : ¬ ((e : Int) < (b : Int)) := by omega
                have SA : Aside (SWK enc k w0 blk off (X ++ (U1 ++ V1) ++ (U2 ++ V2) ++ Y).toArray wr) := by
                  have hz : V1 = [] := List.eq_nil_of_length_eq_zero (by have q := HQ.out; omega)
                  have := S1.out; rw [HL.out, HQ.out.1, HQ.out.2.1, hz] at this; rw [hz]; exact StRow.cong this (by simp [List.append_assoc])
                obtain ⟨LL, hLL⟩ : ∃ LL, LL = U1 ++ V1 := ⟨_, rfl⟩
                have SB : Aside (SWK enc k w0 blk off (X ++ LL ++ (U2 ++ V2) ++ Y).toArray wr ∧ SortedL (ltOf cf) LL ∧ Stab (ltOf cf) (U1 ++ V1) LL ∧ LL.length = U1.length + V1.length) := by
                  rw [hLL]
                  have hz : V1 = [] := List.eq_nil_of_length_eq_zero (by have q := HQ.out; omega)
                  refine ⟨SA.out, ?_, Stab.refl _, by simp⟩
                  rw [hz]; simpa using HU1.out
                clear hLL
                obtain ⟨RR, hRR⟩ : ∃ RR, RR = U2 ++ V2 := ⟨_, rfl⟩
                have SC : Aside (SWK enc k w0 blk off (X ++ LL ++ RR ++ Y).toArray wr ∧ SortedL (ltOf cf) RR ∧ Stab (ltOf cf) (U2 ++ V2) RR) := by
                  rw [hRR]
                  have hz : V2 = [] := List.eq_nil_of_length_eq_zero (by have q := HQ.out; omega)
                  refine ⟨SB.out.1, ?_, Stab.refl _⟩
                  rw [hz]; simpa using HU2.out
                clear hRR
                go_wp2
                all_goals
                  go_end0
                  have mf := merge_step HO.out U1 U2 V1 V2 LL RR (by rw [← HQ.out.1]; exact HSU.out) (by rw [← HQ.out.2.1]; exact HSV.out) HB1.out HB2.out SB.out.2.1 SC.out.2.1 SB.out.2.2.1 SC.out.2.2
                  exact ⟨rfl, LL ++ RR, by have := SC.out.1; exact StRow.cong this (by simp [List.append_assoc]), mf.1, by rw [HQ.out.1, HQ.out.2.1]; exact mf.2⟩
          · have _tk : True := trivial
            by_cases q6 : e < b
            · have _tk : True := trivial
              by_cases q2 : m < e
              · have _tk : True := trivial
                have c1 : (s : Int) < (m : Int) := by omega
                have c2 : (m : Int) < (e : Int) := by omega
                have c3 : ¬ ((a : Int) < (s : Int)) := by omega
                have c4 : (s : Int) < (mid : Int) := by omega
                have c5 : (mid : Int) < (e : Int) := by omega
                have c6 : (e : Int) < (b : Int) := by omega
                have hr := StRow.rotate L enc g cb blk off cap s m e sz (X ++ U1) U2 V1 (V2 ++ Y) d0 w0 wr R (by have q := HQ.out; simp; omega) (by have q := HQ.out; simp; omega) (by have q := HQ.out; simp; omega) (by have q := HQ.out; omega) (by have q := HQ.out; omega) (by have q := HQ.out; simp; omega) HE.out.2 hbig (by have := S1.out; rw [HL.out, HQ.out.1, HQ.out.2.1] at this; exact StRow.cong this (by simp [List.append_assoc]))
                have HR : Hid (type_of% hr) := hr
                clear hr
                go_wp2_with fail
                refine HR.out.mono ?_
                rintro e1 w1 ⟨rfl, S2⟩
                have SA : Aside (SWK enc k w0 blk off (X ++ (U1 ++ V1) ++ (U2 ++ V2) ++ Y).toArray w1) := StRow.cong S2 (by simp [List.append_assoc])
                clear S2 HR
                obtain ⟨LL, hLL⟩ : ∃ LL, LL = U1 ++ V1 := ⟨_, rfl⟩
                have SB : Aside (SWK enc k w0 blk off (X ++ LL ++ (U2 ++ V2) ++ Y).toArray w1 ∧ SortedL (ltOf cf) LL ∧ Stab (ltOf cf) (U1 ++ V1) LL ∧ LL.length = U1.length + V1.length) := by
                  rw [hLL]
                  have hz : U1 = [] := List.eq_nil_of_length_eq_zero (by have q := HQ.out; omega)
                  refine ⟨SA.out, ?_, Stab.refl _, by simp⟩
                  rw [hz]; simpa using HV1.out
                clear hLL
                have hd := IH2.out (b - mid) (by omega) mid e b (X ++ LL) U2 V2 Y w1 (by omega) (by have q := HQ.out; have q2 := SB.out.2.2.2; simp; omega) (by have q := HQ.out; have q2 := SB.out.2.2.2; simp; omega) (by have q := HQ.out; have q2 := SB.out.2.2.2; simp; omega) (by have q := HQ.out; omega) (by have q := HQ.out; omega) (by have q := HQ.out; have q2 := SB.out.2.2.2; simp; omega) HU2.out HV2.out (by have := SB.out.1; exact StRow.cong this (by simp [List.append_assoc]))
                have HD : Hid (type_of% hd) := hd
                clear hd
                go_wp2_with fail
                refine HD.out.mono ?_
                rintro e3 w3 ⟨rfl, RR, S4, q1, q2⟩
                have SC : Aside (SWK enc k w0 blk off (X ++ LL ++ RR ++ Y).toArray w3 ∧ SortedL (ltOf cf) RR ∧ Stab (ltOf cf) (U2 ++ V2) RR) := ⟨StRow.cong S4 (by simp [List.append_assoc]), q1, q2⟩
                clear S4 q1 q2 HD
                go_wp2
                all_goals
                  go_end0
                  have mf := merge_step HO.out U1 U2 V1 V2 LL RR (by rw [← HQ.out.1]; exact HSU.out) (by rw [← HQ.out.2.1]; exact HSV.out) HB1.out HB2.out SB.out.2.1 SC.out.2.1 SB.out.2.2.1 SC.out.2.2
                  exact ⟨rfl, LL ++ RR, by have := SC.out.1; exact StRow.cong this (by simp [List.append_assoc]), mf.1, by rw [HQ.out.1, HQ.out.2.1]; exact mf.2⟩
              · have _tk : True := trivial
                have c1 : (s : Int) < (m : Int) := by omega
                have c2 : ¬ ((m : Int) < (e : Int)) := by omega
                have c3 : ¬ ((a : Int) < (s : Int)) := by omega
                have c4 : ¬ ((s : Int) < (mid : Int)) := by omega
                have c5 : (mid : Int) < (e : Int) := by omega
                have c6 : (e : Int) < (b : Int) := by omega
                have SA : Aside (SWK enc k w0 blk off (X ++ (U1 ++ V1) ++ (U2 ++ V2) ++ Y).toArray wr) := by
                  have hz : V1 = [] := List.eq_nil_of_length_eq_zero (by have q := HQ.out; omega)
                  have := S1.out; rw [HL.out, HQ.out.1, HQ.out.2.1, hz] at this; rw [hz]; exact StRow.cong this (by simp [List.append_assoc])
                obtain ⟨LL, hLL⟩ : ∃ LL, LL = U1 ++ V1 := ⟨_, rfl⟩
                have SB : Aside (SWK enc k w0 blk off (X ++ LL ++ (U2 ++ V2) ++ Y).toArray wr ∧ SortedL (ltOf cf) LL ∧ Stab (ltOf cf) (U1 ++ V1) LL ∧ LL.length = U1.length + V1.length) := by
                  rw [hLL]
                  have hz : U1 = [] := List.eq_nil_of_length_eq_zero (by have q := HQ.out; omega)
                  refine ⟨SA.out, ?_, Stab.refl _, by simp⟩
                  rw [hz]; simpa using HV1.out
                clear hLL
                have hd := IH2.out (b - mid) (by omega) mid e b (X ++ LL) U2 V2 Y wr (by omega) (by have q := HQ.out; have q2 := SB.out.2.2.2; simp; omega) (by have q := HQ.out; have q2 := SB.out.2.2.2; simp; omega) (by have q := HQ.out; have q2 := SB.out.2.2.2; simp; omega) (by have q := HQ.out; omega) (by have q := HQ.out; omega) (by have q := HQ.out; have q2 := SB.out.2.2.2; simp; omega) HU2.out HV2.out (by have := SB.out.1; exact StRow.cong this (by simp [List.append_assoc]))
                have HD : Hid (type_of% hd) := hd
                clear hd
                go_wp2_with fail
                refine HD.out.mono ?_
                rintro e3 w3 ⟨rfl, RR, S4, q1, q2⟩
                have SC : Aside (SWK enc k w0 blk off (X ++ LL ++ RR ++ Y).toArray w3 ∧ SortedL (ltOf cf) RR ∧ Stab (ltOf cf) (U2 ++ V2) RR) := ⟨StRow.cong S4 (by simp [List.append_assoc]), q1, q2⟩
                clear S4 q1 q2 HD
                go_wp2
                all_goals
                  go_end0
                  have mf := merge_step HO.out U1 U2 V1 V2 LL RR (by rw [← HQ.out.1]; exact HSU.out) (by rw [← HQ.out.2.1]; exact HSV.out) HB1.out HB2.out SB.out.2.1 SC.out.2.1 SB.out.2.2.1 SC.out.2.2
                  exact ⟨rfl, LL ++ RR, by have := SC.out.1; exact StRow.cong this (by simp [List.append_assoc]), mf.1, by rw [HQ.out.1, HQ.out.2.1]; exact mf.2⟩
            · have _tk : True := trivial
              by_cases q2 : m < e
              · have _tk : True := trivial
                have c1 : (s : Int) < (m : Int) := by omega
                have c2 : (m : Int) < (e : Int) := by omega
                have c3 : ¬ ((a : Int) < (s : Int)) := by omega
                have c4 : (s : Int) < (mid : Int) := by omega
                have c5 : (mid : Int) < (e : Int) := by omega
                have c6 : ¬ ((e : Int) < (b : Int)) := by omega
                have hr := StRow.rotate L enc g cb blk off cap s m e sz (X ++ U1) U2 V1 (V2 ++ Y) d0 w0 wr R (by have q := HQ.out; simp; omega) (by have q := HQ.out; simp; omega) (by have q := HQ.out; simp; omega) (by have q := HQ.out; omega) (by have q := HQ.out; omega) (by have q := HQ.out; simp; omega) HE.out.2 hbig (by have := S1.out; rw [HL.out, HQ.out.1, HQ.out.2.1] at this; exact StRow.cong this (by simp [List.append_assoc]))
                have HR : Hid (type_of% hr) := hr
                clear hr
                go_wp2_with fail
                refine HR.out.mono ?_
                rintro e1 w1 ⟨rfl, S2⟩
                have SA : Aside (SWK enc k w0 blk off (X ++ (U1 ++ V1) ++ (U2 ++ V2) ++ Y).toArray w1) := StRow.cong S2 (by simp [List.append_assoc])
                clear S2 HR
                obtain ⟨LL, hLL⟩ : ∃ LL, LL = U1 ++ V1 := ⟨_, rfl⟩
                have SB : Aside (SWK enc k w0 blk off (X ++ LL ++ (U2 ++ V2) ++ Y).toArray w1 ∧ SortedL (ltOf cf) LL ∧ Stab (ltOf cf) (U1 ++ V1) LL ∧ LL.length = U1.length + V1.length) := by
                  rw [hLL]
                  have hz : U1 = [] := List.eq_nil_of_length_eq_zero (by have q := HQ.out; omega)
                  refine ⟨SA.out, ?_, Stab.refl _, by simp⟩
                  rw [hz]; simpa using HV1.out
                clear hLL
                obtain ⟨RR, hRR⟩ : ∃ RR, RR = U2 ++ V2 := ⟨_, rfl⟩
                have SC : Aside (SWK enc k w0 blk off (X ++ LL ++ RR ++ Y).toArray w1 ∧ SortedL (ltOf cf) RR ∧ Stab (ltOf cf) (U2 ++ V2) RR) := by
                  rw [hRR]
                  have hz : V2 = [] := List.eq_nil_of_length_eq_zero (by have q := HQ.out; omega)
                  refine ⟨SB.out.1, ?_, Stab.refl _⟩
                  rw [hz]; simpa using HU2.out
                clear hRR
                go_wp2
                all_goals
                  go_end0
                  have mf := merge_step HO.out U1 U2 V1 V2 LL RR (by rw [← HQ.out.1]; exact HSU.out) (by rw [← HQ.out.2.1]; exact HSV.out) HB1.out HB2.out SB.out.2.1 SC.out.2.1 SB.out.2.2.1 SC.out.2.2
                  exact ⟨rfl, LL ++ RR, by have := SC.out.1; exact StRow.cong this (by simp [List.append_assoc]), mf.1, by rw [HQ.out.1, HQ.out.2.1]; exact mf.2⟩
              · have _tk : True := trivial
                have c1 : (s : Int) < (m : Int) := by omega
                have c2 : ¬ ((m : Int) < (e : Int)) := by omega
                have c3 : ¬ ((a : Int) < (s : Int)) := by omega
                have c4 : ¬ ((s : Int) < (mid : Int)) := by omega
                have c5 : (mid : Int) < (e : Int) := by omega
                have c6 : ¬ ((e : Int) < (b : Int)) := by omega
                have SA : Aside (SWK enc k w0 blk off (X ++ (U1 ++ V1) ++ (U2 ++ V2) ++ Y).toArray wr) := by
                  have hz : V1 = [] := List.eq_nil_of_length_eq_zero (by have q := HQ.out; omega)
                  have := S1.out; rw [HL.out, HQ.out.1, HQ.out.2.1, hz] at this; rw [hz]; exact StRow.cong this (by simp [List.append_assoc])
                obtain ⟨LL, hLL⟩ : ∃ LL, LL = U1 ++ V1 := ⟨_, rfl⟩
                have SB : Aside (SWK enc k w0 blk off (X ++ LL ++ (U2 ++ V2) ++ Y).toArray wr ∧ SortedL (ltOf cf) LL ∧ Stab (ltOf cf) (U1 ++ V1) LL ∧ LL.length = U1.length + V1.length) := by
                  rw [hLL]
                  have hz : U1 = [] := List.eq_nil_of_length_eq_zero (by have q := HQ.out; omega)
                  refine ⟨SA.out, ?_, Stab.refl _, by simp⟩
                  rw [hz]; simpa using HV1.out
                clear hLL
                obtain ⟨RR, hRR⟩ : ∃ RR, RR = U2 ++ V2 := ⟨_, rfl⟩
                have SC : Aside (SWK enc k w0 blk off (X ++ LL ++ RR ++ Y).toArray wr ∧ SortedL (ltOf cf) RR ∧ Stab (ltOf cf) (U2 ++ V2) RR) := by
                  rw [hRR]
                  have hz : V2 = [] := List.eq_nil_of_length_eq_zero (by have q := HQ.out; omega)
                  refine ⟨SB.out.1, ?_, Stab.refl _⟩
                  rw [hz]; simpa using HU2.out
                clear hRR
                go_wp2
                all_goals
                  go_end0
                  have mf := merge_step HO.out U1 U2 V1 V2 LL RR (by rw [← HQ.out.1]; exact HSU.out) (by rw [← HQ.out.2.1]; exact HSV.out) HB1.out HB2.out SB.out.2.1 SC.out.2.1 SB.out.2.2.1 SC.out.2.2
                  exact ⟨rfl, LL ++ RR, by have := SC.out.1; exact StRow.cong this (by simp [List.append_assoc]), mf.1, by rw [HQ.out.1, HQ.out.2.1]; exact mf.2⟩
        · have _tk : True := trivial
          by_cases q3 : a < s
          · have _tk : True := trivial
            by_cases q6 : e < b
            · have _tk : True := trivial
              by_cases q2 : m < e
              · have _tk : True := trivial
                have c1 : ¬ ((s : Int) < (m : Int)) := by omega
                have c2 : (m : Int) < (e : Int) := by omega
                have c3 : (a : Int) < (s : Int) := by omega
                have c4 : (s : Int) < (mid : Int) := by omega
                have c5 : ¬ ((mid : Int) < (e : Int)) := by omega
                have c6 : (e : Int) < (b : Int) := by omega
                have SA : Aside (SWK enc k w0 blk off (X ++ (U1 ++ V1) ++ (U2 ++ V2) ++ Y).toArray wr) := by
                  have hz : U2 = [] := List.eq_nil_of_length_eq_zero (by have q := HQ.out; omega)
                  have := S1.out; rw [HL.out, HQ.out.1, HQ.out.2.1, hz] at this; rw [hz]; exact StRow.cong this (by simp [List.append_assoc])
                have hb := IH2.out (mid - a) (by omega) a s mid X U1 V1 ((U2 ++ V2) ++ Y) wr (by omega) (by have q := HQ.out; omega) (by have q := HQ.out; omega) (by have q := HQ.out; omega) (by have q := HQ.out; omega) (by have q := HQ.out; omega) (by have q := HQ.out; simp; omega) HU1.out HV1.out (by have := SA.out; exact StRow.cong this (by simp [List.append_assoc]))
                have HB : Hid (type_of% hb) := hb
                clear hb
                go_wp2_with fail
                refine HB.out.mono ?_
                rintro e2 w2 ⟨rfl, LL, S3, q1, q2⟩
                have hLl := (q2.length HO.out).symm
                have SB : Aside (SWK enc k w0 blk off (X ++ LL ++ (U2 ++ V2) ++ Y).toArray w2 ∧ SortedL (ltOf cf) LL ∧ Stab (ltOf cf) (U1 ++ V1) LL ∧ LL.length = U1.length + V1.length) := ⟨StRow.cong S3 (by simp [List.append_assoc]), q1, q2, by rw [hLl]; simp⟩
                clear S3 q1 q2 hLl HB SA
                obtain ⟨RR, hRR⟩ : ∃ RR, RR = U2 ++ V2 := ⟨_, rfl⟩
                have SC : Aside (SWK enc k w0 blk off (X ++ LL ++ RR ++ Y).toArray w2 ∧ SortedL (ltOf cf) RR ∧ Stab (ltOf cf) (U2 ++ V2) RR) := by
                  rw [hRR]
                  have hz : U2 = [] := List.eq_nil_of_length_eq_zero (by have q := HQ.out; omega)
                  refine ⟨SB.out.1, ?_, Stab.refl _⟩
                  rw [hz]; simpa using HV2.out
                clear hRR
                go_wp2
                all_goals
                  go_end0
                  have mf := merge_step HO.out U1 U2 V1 V2 LL RR (by rw [← HQ.out.1]; exact HSU.out) (by rw [← HQ.out.2.1]; exact HSV.out) HB1.out HB2.out SB.out.2.1 SC.out.2.1 SB.out.2.2.1 SC.out.2.2
                  exact ⟨rfl, LL ++ RR, by have := SC.out.1; exact StRow.cong this (by simp [List.append_assoc]), mf.1, by rw [HQ.out.1, HQ.out.2.1]; exact mf.2⟩
              · have _tk : True := trivial
                have c1 : ¬ ((s : Int) < (m : Int)) := by omega
                have c2 : ¬ ((m : Int) < (e : Int)) := by omega
                have c3 : (a : Int) < (s : Int) := by omega
                have c4 : ¬ ((s : Int) < (mid : Int)) := by omega
                have c5 : ¬ ((mid : Int) < (e : Int)) := by omega
                have c6 : (e : Int) < (b : Int) := by omega
                have SA : Aside (SWK enc k w0 blk off (X ++ (U1 ++ V1) ++ (U2 ++ V2) ++ Y).toArray wr) := by
                  have hz : U2 = [] := List.eq_nil_of_length_eq_zero (by have q := HQ.out; omega)
                  have := S1.out; rw [HL.out, HQ.out.1, HQ.out.2.1, hz] at this; rw [hz]; exact StRow.cong this (by simp [List.append_assoc])
                obtain ⟨LL, hLL⟩ : ∃ LL, LL = U1 ++ V1 := ⟨_, rfl⟩
                have SB : Aside (SWK enc k w0 blk off (X ++ LL ++ (U2 ++ V2) ++ Y).toArray wr ∧ SortedL (ltOf cf) LL ∧ Stab (ltOf cf) (U1 ++ V1) LL ∧ LL.length = U1.length + V1.length) := by
                  rw [hLL]
                  have hz : V1 = [] := List.eq_nil_of_length_eq_zero (by have q := HQ.out; omega)
                  refine ⟨SA.out, ?_, Stab.refl _, by simp⟩
                  rw [hz]; simpa using HU1.out
                clear hLL
                obtain ⟨RR, hRR⟩ : ∃ RR, RR = U2 ++ V2 := ⟨_, rfl⟩
                have SC : Aside (SWK enc k w0 blk off (X ++ LL ++ RR ++ Y).toArray wr ∧ SortedL (ltOf cf) RR ∧ Stab (ltOf cf) (U2 ++ V2) RR) := by
                  rw [hRR]
                  have hz : U2 = [] := List.eq_nil_of_length_eq_zero (by have q := HQ.out; omega)
                  refine ⟨SB.out.1, ?_, Stab.refl _⟩
                  rw [hz]; simpa using HV2.out
                clear hRR
                go_wp2
                all_goals
                  go_end0
                  have mf := merge_step HO.out U1 U2 V1 V2 LL RR (by rw [← HQ.out.1]; exact HSU.out) (by rw [← HQ.out.2.1]; exact HSV.out) HB1.out HB2.out SB.out.2.1 SC.out.2.1 SB.out.2.2.1 SC.out.2.2
                  exact ⟨rfl, LL ++ RR, by have := SC.out.1; exact StRow.cong this (by simp [List.append_assoc]), mf.1, by rw [HQ.out.1, HQ.out.2.1]; exact mf.2⟩
            · have _tk : True := trivial
              by_cases q2 : m < e
              · have _tk : True := trivial
                have c1 : ¬ ((s : Int) < (m : Int)) := by omega
                have c2 : (m : Int) < (e : Int) := by omega
                have c3 : (a : Int) < (s : Int) := by omega
                have c4 : (s : Int) < (mid : Int) := by omega
                have c5 : ¬ ((mid : Int) < (e : Int)) := by omega
                have c6 : ¬ ((e : Int) < (b : Int)) := by omega
                have SA : Aside (SWK enc k w0 blk off (X ++ (U1 ++ V1) ++ (U2 ++ V2) ++ Y).toArray wr) := by
                  have hz : U2 = [] := List.eq_nil_of_length_eq_zero (by have q := HQ.out; omega)
                  have := S1.out; rw [HL.out, HQ.out.1, HQ.out.2.1, hz] at this; rw [hz]; exact StRow.cong this (by simp [List.append_assoc])
                have hb := IH2.out (mid - a) (by omega) a s mid X U1 V1 ((U2 ++ V2) ++ Y) wr (by omega) (by have q := HQ.out; omega) (by have q := HQ.out; omega) (by have q := HQ.out; omega) (by have q := HQ.out; omega) (by have q := HQ.out; omega) (by have q := HQ.out; simp; omega) HU1.out HV1.out (by have := SA.out; exact StRow.cong this (by simp [List.append_assoc]))
                have HB : Hid (type_of% hb) := hb
                clear hb
                go_wp2_with fail
                refine HB.out.mono ?_
                rintro e2 w2 ⟨rfl, LL, S3, q1, q2⟩
                have hLl := (q2.length HO.out).symm
                have SB : Aside (SWK enc k w0 blk off (X ++ LL ++ (U2 ++ V2) ++ Y).toArray w2 ∧ SortedL (ltOf cf) LL ∧ Stab (ltOf cf) (U1 ++ V1) LL ∧ LL.length = U1.length + V1.length) := ⟨StRow.cong S3 (by simp [List.append_assoc]), q1, q2, by rw [hLl]; simp⟩
                clear S3 q1 q2 hLl HB SA
                obtain ⟨RR, hRR⟩ : ∃ RR, RR = U2 ++ V2 := ⟨_, rfl⟩
                have SC : Aside (SWK enc k w0 blk off (X ++ LL ++ RR ++ Y).toArray w2 ∧ SortedL (ltOf cf) RR ∧ Stab (ltOf cf) (U2 ++ V2) RR) := by
                  rw [hRR]
                  have hz : U2 = [] := List.eq_nil_of_length_eq_zero (by have q := HQ.out; omega)
                  refine ⟨SB.out.1, ?_, Stab.refl _⟩
                  rw [hz]; simpa using HV2.out
                clear hRR
                go_wp2
                all_goals
                  go_end0
                  have mf := merge_step HO.out U1 U2 V1 V2 LL RR (by rw [← HQ.out.1]; exact HSU.out) (by rw [← HQ.out.2.1]; exact HSV.out) HB1.out HB2.out SB.out.2.1 SC.out.2.1 SB.out.2.2.1 SC.out.2.2
                  exact ⟨rfl, LL ++ RR, by have := SC.out.1; exact StRow.cong this (by simp [List.append_assoc]), mf.1, by rw [HQ.out.1, HQ.out.2.1]; exact mf.2⟩
              · have _tk : True := trivial
                have c1 : ¬ ((s : Int) < (m : Int)) := by omega
                have c2 : ¬ ((m : Int) < (e : Int)) := by omega
                have c3 : (a : Int) < (s : Int) := by omega
                have c4 : ¬ ((s : Int) < (mid : Int)) := by omega
                have c5 : ¬ ((mid : Int) < (e : Int)) := by omega
                have c6 : ¬ ((e : Int) < (b : Int)) := by omega
                have SA : Aside (SWK enc k w0 blk off (X ++ (U1 ++ V1) ++ (U2 ++ V2) ++ Y).toArray wr) := by
                  have hz : U2 = [] := List.eq_nil_of_length_eq_zero (by have q := HQ.out; omega)
                  have := S1.out; rw [HL.out, HQ.out.1, HQ.out.2.1, hz] at this; rw [hz]; exact StRow.cong this (by simp [List.append_assoc])
                obtain ⟨LL, hLL⟩ : ∃ LL, LL = U1 ++ V1 := ⟨_, rfl⟩
                have SB : Aside (SWK enc k w0 blk off (X ++ LL ++ (U2 ++ V2) ++ Y).toArray wr ∧ SortedL (ltOf cf) LL ∧ Stab (ltOf cf) (U1 ++ V1) LL ∧ LL.length = U1.length + V1.length) := by
                  rw [hLL]
                  have hz : V1 = [] := List.eq_nil_of_length_eq_zero (by have q := HQ.out; omega)
                  refine ⟨SA.out, ?_, Stab.refl _, by simp⟩
                  rw [hz]; simpa using HU1.out
                clear hLL
                obtain ⟨RR, hRR⟩ : ∃ RR, RR = U2 ++ V2 := ⟨_, rfl⟩
                have SC : Aside (SWK enc k w0 blk off (X ++ LL ++ RR ++ Y).toArray wr ∧ SortedL (ltOf cf) RR ∧ Stab (ltOf cf) (U2 ++ V2) RR) := by
                  rw [hRR]
                  have hz : U2 = [] := List.eq_nil_of_length_eq_zero (by have q := HQ.out; omega)
                  refine ⟨SB.out.1, ?_, Stab.refl _⟩
                  rw [hz]; simpa using HV2.out
                clear hRR
                go_wp2
                all_goals
                  go_end0
                  have mf := merge_step HO.out U1 U2 V1 V2 LL RR (by rw [← HQ.out.1]; exact HSU.out) (by rw [← HQ.out.2.1]; exact HSV.out) HB1.out HB2.out SB.out.2.1 SC.out.2.1 SB.out.2.2.1 SC.out.2.2
                  exact ⟨rfl, LL ++ RR, by have := SC.out.1; exact StRow.cong this (by simp [List.append_assoc]), mf.1, by rw [HQ.out.1, HQ.out.2.1]; exact mf.2⟩
          · have _tk : True := trivial
            by_cases q6 : e < b
            · have _tk : True := trivial
              by_cases q2 : m < e
              · have _tk : True := trivial
                have c1 : ¬ ((s : Int) < (m : Int)) := by omega
                have c2 : (m : Int) < (e : Int) := by omega
                have c3 : ¬ ((a : Int) < (s : Int)) := by omega
                have c4 : (s : Int) < (mid : Int) := by omega
                have c5 : ¬ ((mid : Int) < (e : Int)) := by omega
                have c6 : (e : Int) < (b : Int) := by omega
                have SA : Aside (SWK enc k w0 blk off (X ++ (U1 ++ V1) ++ (U2 ++ V2) ++ Y).toArray wr) := by
                  have hz : U2 = [] := List.eq_nil_of_length_eq_zero (by have q := HQ.out; omega)
                  have := S1.out; rw [HL.out, HQ.out.1, HQ.out.2.1, hz] at this; rw [hz]; exact StRow.cong this (by simp [List.append_assoc])
                obtain ⟨LL, hLL⟩ : ∃ LL, LL = U1 ++ V1 := ⟨_, rfl⟩
                have SB : Aside (SWK enc k w0 blk off (X ++ LL ++ (U2 ++ V2) ++ Y).toArray wr ∧ SortedL (ltOf cf) LL ∧ Stab (ltOf cf) (U1 ++ V1) LL ∧ LL.length = U1.length + V1.length) := by
                  rw [hLL]
                  have hz : U1 = [] := List.eq_nil_of_length_eq_zero (by have q := HQ.out; omega)
                  refine ⟨SA.out, ?_, Stab.refl _, by simp⟩
                  rw [hz]; simpa using HV1.out
                clear hLL
                obtain ⟨RR, hRR⟩ : ∃ RR, RR = U2 ++ V2 := ⟨_, rfl⟩
                have SC : Aside (SWK enc k w0 blk off (X ++ LL ++ RR ++ Y).toArray wr ∧ SortedL (ltOf cf) RR ∧ Stab (ltOf cf) (U2 ++ V2) RR) := by
                  rw [hRR]
                  have hz : U2 = [] := List.eq_nil_of_length_eq_zero (by have q := HQ.out; omega)
                  refine ⟨SB.out.1, ?_, Stab.refl _⟩
                  rw [hz]; simpa using HV2.out
                clear hRR
                go_wp2
                all_goals
                  go_end0
                  have mf := merge_step HO.out U1 U2 V1 V2 LL RR (by rw [← HQ.out.1]; exact HSU.out) (by rw [← HQ.out.2.1]; exact HSV.out) HB1.out HB2.out SB.out.2.1 SC.out.2.1 SB.out.2.2.1 SC.out.2.2
                  exact ⟨rfl, LL ++ RR, by have := SC.out.1; exact StRow.cong this (by simp [List.append_assoc]), mf.1, by rw [HQ.out.1, HQ.out.2.1]; exact mf.2⟩
              · have _tk : True := trivial
                have c1 : ¬ ((s : Int) < (m : Int)) := by omega
                have c2 : ¬ ((m : Int) < (e : Int)) := by omega
                have c3 : ¬ ((a : Int) < (s : Int)) := by omega
                have c4 : ¬ ((s : Int) < (mid : Int)) := by omega
                have c5 : ¬ ((mid : Int) < (e : Int)) := by omega
                have c6 : (e : Int) < (b : Int) := by omega
                have SA : Aside (SWK enc k w0 blk off (X ++ (U1 ++ V1) ++ (U2 ++ V2) ++ Y).toArray wr) := by
                  have hz : U2 = [] := List.eq_nil_of_length_eq_zero (by have q := HQ.out; omega)
                  have := S1.out; rw [HL.out, HQ.out.1, HQ.out.2.1, hz] at this; rw [hz]; exact StRow.cong this (by simp [List.append_assoc])
                obtain ⟨LL, hLL⟩ : ∃ LL, LL = U1 ++ V1 := ⟨_, rfl⟩
                have SB : Aside (SWK enc k w0 blk off (X ++ LL ++ (U2 ++ V2) ++ Y).toArray wr ∧ SortedL (ltOf cf) LL ∧ Stab (ltOf cf) (U1 ++ V1) LL ∧ LL.length = U1.length + V1.length) := by
                  rw [hLL]
                  have hz : U1 = [] := List.eq_nil_of_length_eq_zero (by have q := HQ.out; omega)
                  refine ⟨SA.out, ?_, Stab.refl _, by simp⟩
                  rw [hz]; simpa using HV1.out
                clear hLL
                obtain ⟨RR, hRR⟩ : ∃ RR, RR = U2 ++ V2 := ⟨_, rfl⟩
                have SC : Aside (SWK enc k w0 blk off (X ++ LL ++ RR ++ Y).toArray wr ∧ SortedL (ltOf cf) RR ∧ Stab (ltOf cf) (U2 ++ V2) RR) := by
                  rw [hRR]
                  have hz : U2 = [] := List.eq_nil_of_length_eq_zero (by have q := HQ.out; omega)
                  refine ⟨SB.out.1, ?_, Stab.refl _⟩
                  rw [hz]; simpa using HV2.out
                clear hRR
                go_wp2
                all_goals
                  go_end0
                  have mf := merge_step HO.out U1 U2 V1 V2 LL RR (by rw [← HQ.out.1]; exact HSU.out) (by rw [← HQ.out.2.1]; exact HSV.out) HB1.out HB2.out SB.out.2.1 SC.out.2.1 SB.out.2.2.1 SC.out.2.2
                  exact ⟨rfl, LL ++ RR, by have := SC.out.1; exact StRow.cong this (by simp [List.append_assoc]), mf.1, by rw [HQ.out.1, HQ.out.2.1]; exact mf.2⟩
            · have _tk : True := trivial
              by_cases q2 : m < e
              · have _tk : True := trivial
                have c1 : ¬ ((s : Int) < (m : Int)) := by omega
                have c2 : (m : Int) < (e : Int) := by omega
                have c3 : ¬ ((a : Int) < (s : Int)) := by omega
                have c4 : (s : Int) < (mid : Int) := by omega
                have c5 : ¬ ((mid : Int) < (e : Int)) := by omega
                have c6 : ¬ ((e : Int) < (b : Int)) := by omega
                have SA : Aside (SWK enc k w0 blk off (X ++ (U1 ++ V1) ++ (U2 ++ V2) ++ Y).toArray wr) := by
                  have hz : U2 = [] := List.eq_nil_of_length_eq_zero (by have q := HQ.out; omega)
                  have := S1.out; rw [HL.out, HQ.out.1, HQ.out.2.1, hz] at this; rw [hz]; exact StRow.cong this (by simp [List.append_assoc])
                obtain ⟨LL, hLL⟩ : ∃ LL, LL = U1 ++ V1 := ⟨_, rfl⟩
                have SB : Aside (SWK enc k w0 blk off (X ++ LL ++ (U2 ++ V2) ++ Y).toArray wr ∧ SortedL (ltOf cf) LL ∧ Stab (ltOf cf) (U1 ++ V1) LL ∧ LL.length = U1.length + V1.length) := by
                  rw [hLL]
                  have hz : U1 = [] := List.eq_nil_of_length_eq_zero (by have q := HQ.out; omega)
                  refine ⟨SA.out, ?_, Stab.refl _, by simp⟩
                  rw [hz]; simpa using HV1.out
                clear hLL
                obtain ⟨RR, hRR⟩ : ∃ RR, RR = U2 ++ V2 := ⟨_, rfl⟩
                have SC : Aside (SWK enc k w0 blk off (X ++ LL ++ RR ++ Y).toArray wr ∧ SortedL (ltOf cf) RR ∧ Stab (ltOf cf) (U2 ++ V2) RR) := by
                  rw [hRR]
                  have hz : U2 = [] := List.eq_nil_of_length_eq_zero (by have q := HQ.out; omega)
                  refine ⟨SB.out.1, ?_, Stab.refl _⟩
                  rw [hz]; simpa using HV2.out
                clear hRR
                go_wp2
                all_goals
                  go_end0
                  have mf := merge_step HO.out U1 U2 V1 V2 LL RR (by rw [← HQ.out.1]; exact HSU.out) (by rw [← HQ.out.2.1]; exact HSV.out) HB1.out HB2.out SB.out.2.1 SC.out.2.1 SB.out.2.2.1 SC.out.2.2
                  exact ⟨rfl, LL ++ RR, by have := SC.out.1; exact StRow.cong this (by simp [List.append_assoc]), mf.1, by rw [HQ.out.1, HQ.out.2.1]; exact mf.2⟩
              · have _tk : True := trivial
                have c1 : ¬ ((s : Int) < (m : Int)) := by omega
                have c2 : ¬ ((m : Int) < (e : Int)) := by omega
                have c3 : ¬ ((a : Int) < (s : Int)) := by omega
                have c4 : ¬ ((s : Int) < (mid : Int)) := by omega
                have c5 : ¬ ((mid : Int) < (e : Int)) := by omega
                have c6 : ¬ ((e : Int) < (b : Int)) := by omega
                have SA : Aside (SWK enc k w0 blk off (X ++ (U1 ++ V1) ++ (U2 ++ V2) ++ Y).toArray wr) := by
                  have hz : U2 = [] := List.eq_nil_of_length_eq_zero (by have q := HQ.out; omega)
                  have := S1.out; rw [HL.out, HQ.out.1, HQ.out.2.1, hz] at this; rw [hz]; exact StRow.cong this (by simp [List.append_assoc])
                obtain ⟨LL, hLL⟩ : ∃ LL, LL = U1 ++ V1 := ⟨_, rfl⟩
                have SB : Aside (SWK enc k w0 blk off (X ++ LL ++ (U2 ++ V2) ++ Y).toArray wr ∧ SortedL (ltOf cf) LL ∧ Stab (ltOf cf) (U1 ++ V1) LL ∧ LL.length = U1.length + V1.length) := by
                  rw [hLL]
                  have hz : U1 = [] := List.eq_nil_of_length_eq_zero (by have q := HQ.out; omega)
                  refine ⟨SA.out, ?_, Stab.refl _, by simp⟩
                  rw [hz]; simpa using HV1.out
                clear hLL
                obtain ⟨RR, hRR⟩ : ∃ RR, RR = U2 ++ V2 := ⟨_, rfl⟩
                have SC : Aside (SWK enc k w0 blk off (X ++ LL ++ RR ++ Y).toArray wr ∧ SortedL (ltOf cf) RR ∧ Stab (ltOf cf) (U2 ++ V2) RR) := by
                  rw [hRR]
                  have hz : U2 = [] := List.eq_nil_of_length_eq_zero (by have q := HQ.out; omega)
                  refine ⟨SB.out.1, ?_, Stab.refl _⟩
                  rw [hz]; simpa using HV2.out
                clear hRR
                go_wp2
                all_goals
                  go_end0
                  have mf := merge_step HO.out U1 U2 V1 V2 LL RR (by rw [← HQ.out.1]; exact HSU.out) (by rw [← HQ.out.2.1]; exact HSV.out) HB1.out HB2.out SB.out.2.1 SC.out.2.1 SB.out.2.2.1 SC.out.2.2
                  exact ⟨rfl, LL ++ RR, by have := SC.out.1; exact StRow.cong this (by simp [List.append_assoc]), mf.1, by rw [HQ.out.1, HQ.out.2.1]; exact mf.2⟩
end Go.Proofs.Ytgdmdhhihoifkaa

namespace Go.Proofs.Ytgdmdhhihoifkaa
open Go.Shelf Go.RowKit Go.Lib Go.Sort
variable {P : Program} {ρ : Ren} {α : Type} [Inhabited α]

theorem StRow.ins {k : Nat} (LI : SlLaysF0.n20 P ρ) (aE : ∀ w, (isAgg (ρ.t 24)).run P w = .ok true w) (zE : ∀ w, (Go.sizeOf (ρ.t 24)).run P w = .ok k w) (enc : α → List Value) (cf : α → α → Int) (hO : SWO (ltOf cf)) (g : Nat) (cb : Array Value) (blk off cap sz : Nat) (d0 : Array α) (w0 : World) (R : RowK enc k w0 blk off d0)
    (eg : ∀ args w, (callFunc g args).run P w = .ok (.enter g args) w) (hcmp : CmpLays P g cb enc k cf blk off sz w0) (hs : d0.size = sz) (hbig : sz < 4611686018427387904)
    (a b : Nat) (dk : Array α) (w : World) (hdk : dk.size = sz) (S : SWK enc k w0 blk off dk w) (hab : a ≤ b) (hb : b ≤ sz) :
    Calls P (ρ.f 20) #[.slice (some ⟨blk, off, none⟩) sz cap, .int .i64 a, .int .i64 b, .func (.func g) #[] cb] w fun e w' => e = .returned (.tuple #[]) ∧ SWK enc k w0 blk off (insertionSort (ltOf cf) dk a b) w' := by
  subst hdk
  refine (AnyQ.insertionSortCmpFunc LI k aE zE enc R.hk R.h1 cf g cb blk off cap a b dk w eg ?_ (S.holds R.hblk R.hH hs.symm) (S.lt R.hblk) hab hb hbig).mono ?_
  · intro m os dk' hs' x y
    obtain ⟨n, os0, hw⟩ := S.on R.hblk m dk' os hs'
    rw [hw]; exact hcmp n os0 dk' hs' x y
  · rintro e w' ⟨rfl, n, os, rfl⟩
    exact ⟨rfl, S.on R.hblk n _ os (insertionSort_holds (lt := ltOf cf) hO dk a b hab hb).1.1⟩

/-- What insertionSortCmpFunc does, from world of the sort's to world of the sort's. -/
def StRow.Ins (P : Program) (enc : α → List Value) (k : Nat) (cf : α → α → Int) (g : Nat) (cb : Array Value) (blk off cap sz : Nat) (w0 : World) : Prop :=
  ∀ (a b : Nat) (dk : Array α) (w : World), dk.size = sz → SWK enc k w0 blk off dk w → a ≤ b → b ≤ sz →
    Calls P 49 #[.slice (some ⟨blk, off, none⟩) sz cap, .int .i64 a, .int .i64 b, .func (.func g) #[] cb] w fun e w' => e = .returned (.tuple #[]) ∧ SWK enc k w0 blk off (insertionSort (ltOf cf) dk a b) w'

set_option maxHeartbeats 4000000 in
set_option maxRecDepth 1000000 in
/-- stableCmpFunc: the row sorted, equals in their order. -/
theorem StRow.stable {k : Nat} (L : StRowF P k) (enc : α → List Value) (cf : α → α → Int) (hO : SWO (ltOf cf)) (g : Nat) (cb : Array Value) (blk off cap sz : Nat) (d0 : Array α) (w0 : World) (R : RowK enc k w0 blk off d0)
    (eg : ∀ args w, (callFunc g args).run P w = .ok (.enter g args) w) (hcmp : CmpLays P g cb enc k cf blk off sz w0) (hs : d0.size = sz) (hbig : sz < 4611686018427387904) (hins : StRow.Ins P enc k cf g cb blk off cap sz w0)
    (l0 : List α) (w : World) (hl : l0.length = sz) (S : SWK enc k w0 blk off l0.toArray w) :
    Calls P 39 #[.slice (some ⟨blk, off, none⟩) sz cap, .int .i64 sz, .func (.func g) #[] cb] w fun e w' => e = .returned (.tuple #[]) ∧ ∃ W, SWK enc k w0 blk off W.toArray w' ∧ SortedL (ltOf cf) W ∧ Stab (ltOf cf) l0 W := by
  have mixed := L.mixed; have t3 := L.t3; have a3 := L.a3; have z3 := L.z3; have v3 := L.v3; have t4 := L.t4; have a4 := L.a4; have z4 := L.z4; have v4 := L.v4; have t22 := L.t22; have a22 := L.a22; have z22 := L.z22; have v22 := L.v22; have t25 := L.t25; have a25 := L.a25; have z25 := L.z25; have v25 := L.v25; have aE := L.aE; have zE := L.zE
  have e49 : ∀ args w, (callFunc 49 args).run P w = .ok (.enter 49 args) w := enters_of L.fins (by kernel_rfl) rfl
  have e50 : ∀ args w, (callFunc 50 args).run P w = .ok (.enter 50 args) w := enters_of L.fsym (by kernel_rfl) rfl
  have hm := StRow.symMerge L enc cf hO g cb blk off cap sz d0 w0 R eg hcmp hs hbig
  have HM : Hid (type_of% hm) := hm
  have HI : Hid (StRow.Ins P enc k cf g cb blk off cap sz w0) := hins
  have HO : Hid (SWO (ltOf cf)) := hO
  have HZ : Hid (l0.length = sz) := hl
  have S0 : Aside (SWK enc k w0 blk off l0.toArray w) := S
  clear hm hins hO hl S hcmp
  go_enter L.fstab, Try.ntmps39
  go_wp2
  go_loopg [7, 8] sz (fun gk s7 s8 wr => ∃ (a : Nat) (Pf T : List α), s7 = .int .i64 a ∧ s8 = .int .i64 ((a : Int) + 20) ∧ a ≤ sz ∧ sz - a ≤ gk ∧ Hid (∃ p, a = p * 20 ∧ Pf.length = a ∧ Pf.length + T.length = sz ∧ Blocks (ltOf cf) 20 Pf ∧ Stab (ltOf cf) l0 (Pf ++ T)) ∧ Aside (SWK enc k w0 blk off (Pf ++ T).toArray wr))
  case atStart => exact ⟨0, [], l0, rfl, by first | rfl | go_num | simp, Nat.zero_le _, Nat.le_refl _, ⟨0, rfl, rfl, by simpa using HZ.out, blocks_nil _, Stab.refl _⟩, S0⟩
  case round =>
    clear S0
    obtain ⟨a, Pf, T, rfl, rfl, ha, hg, HB, S1⟩ := hrel
    by_cases hlt : a + 20 ≤ sz
    · have hltz : (a : Int) + 20 ≤ (sz : Int) := by omega
      obtain ⟨U, T2, hT, hU⟩ : ∃ U T2, T = U ++ T2 ∧ U.length = 20 := ⟨T.take 20, T.drop 20, (List.take_append_drop _ _).symm, by obtain ⟨p, h1, h2, h3, _⟩ := HB.out; simp; omega⟩
      subst hT
      obtain ⟨W, hW, sW, tW⟩ := insertionSort_split HO.out Pf U T2 a (a + 20) (by obtain ⟨p, h1, h2, _⟩ := HB.out; omega) (by obtain ⟨p, h1, h2, _⟩ := HB.out; omega)
      have hc := HI.out a (a + 20) (Pf ++ U ++ T2).toArray wr (by obtain ⟨p, h1, h2, h3, _⟩ := HB.out; simp at h3 ⊢; omega) (StRow.cong S1.out (by simp)) (by omega) hlt
      rw [hW, show ((a + 20 : Nat) : Int) = (a : Int) + 20 from by omega] at hc
      have HC : Hid (type_of% hc) := hc
      have HB2 : Hid (∃ p, a + 20 = p * 20 ∧ (Pf ++ W).length = a + 20 ∧ (Pf ++ W).length + T2.length = sz ∧ Blocks (ltOf cf) 20 (Pf ++ W) ∧ Stab (ltOf cf) l0 ((Pf ++ W) ++ T2)) := by
        obtain ⟨p, h1, h2, h3, h4, h5⟩ := HB.out
        have hWl := tW.length HO.out
        refine ⟨p + 1, by omega, by simp; omega, by simp at h3 ⊢; omega, h4.snoc (p := p) (by omega) sW (by omega), h5.trans ?_⟩
        rw [List.append_assoc]
        exact (Stab.refl Pf).append (tW.append (Stab.refl T2))
      clear hc hW sW tW hU HB S1
      go_wp2_with (go_at_fn 49; refine HC.out.mono ?_; rintro e w' ⟨rfl, S2⟩; have S3 : Aside _ := S2; clear S2)
      go_roundg (sz - (a + 20))
      case measure => omega
      case rel => exact ⟨a + 20, Pf ++ W, T2, by first | rfl | go_num, by first | rfl | go_num, hlt, Nat.le_refl _, HB2, S3⟩
    · have hltz : ¬ ((a : Int) + 20 ≤ (sz : Int)) := by omega
      obtain ⟨W, hW, sW, tW⟩ := insertionSort_split HO.out Pf T [] a sz (by obtain ⟨p, h1, h2, _⟩ := HB.out; omega) (by obtain ⟨p, h1, h2, h3, _⟩ := HB.out; omega)
      have hc := HI.out a sz (Pf ++ T ++ []).toArray wr (by obtain ⟨p, h1, h2, h3, _⟩ := HB.out; simp; omega) (StRow.cong S1.out (by simp)) ha (Nat.le_refl _)
      rw [hW] at hc
      have HC : Hid (type_of% hc) := hc
      have HD : Hid ((Pf ++ W).length = sz ∧ Blocks (ltOf cf) 20 (Pf ++ W) ∧ Stab (ltOf cf) l0 (Pf ++ W)) := by
        obtain ⟨p, h1, h2, h3, h4, h5⟩ := HB.out
        have hWl := tW.length HO.out
        exact ⟨by simp; omega, h4.snoc (p := p) (by omega) sW (by omega), h5.trans ((Stab.refl Pf).append tW)⟩
      clear hc hW sW tW HB S1
      go_wp2_with (go_at_fn 49; refine HC.out.mono ?_; rintro e w' ⟨rfl, S2⟩; have S3 : Aside _ := S2; clear S2)
      clear HC
      go_loopg [6] sz (fun gk s6 wr => ∃ (bs : Nat) (l : List α), s6 = .int .i64 bs ∧ 1 ≤ bs ∧ sz - bs ≤ gk ∧ Hid (l.length = sz ∧ Blocks (ltOf cf) bs l ∧ Stab (ltOf cf) l0 l) ∧ Aside (SWK enc k w0 blk off l.toArray wr))
      case atStart => exact ⟨20, Pf ++ W, rfl, by omega, by omega, HD, StRow.cong S3.out (by simp)⟩
      case round =>
        clear S3 HD
        obtain ⟨bs, l, rfl, hbs, hg2, HL2, S4⟩ := hrel
        by_cases hlt2 : bs < sz
        · have hlt2z : (bs : Int) < (sz : Int) := by omega
          go_wp2
          go_loopg [7, 8] sz (fun gk s7 s8 wq => ∃ (a : Nat) (Pf T : List α), s7 = .int .i64 a ∧ s8 = .int .i64 ((a : Int) + 2 * (bs : Int)) ∧ a ≤ sz ∧ sz - a ≤ gk ∧ Hid (∃ p, a = p * (2 * bs) ∧ Pf.length = a ∧ Pf.length + T.length = sz ∧ Blocks (ltOf cf) (2 * bs) Pf ∧ Blocks (ltOf cf) bs T ∧ Stab (ltOf cf) l0 (Pf ++ T)) ∧ Aside (SWK enc k w0 blk off (Pf ++ T).toArray wq))
          case atStart => exact ⟨0, [], l, rfl, by first | rfl | go_num | simp, Nat.zero_le _, Nat.le_refl _, ⟨0, by simp, rfl, by simpa using HL2.out.1, blocks_nil _, HL2.out.2.1, HL2.out.2.2⟩, S4⟩
          case round =>
            clear S4 HL2
            obtain ⟨a2, Pf2, T, rfl, rfl, ha2, hg3, HB, S5⟩ := hrel
            by_cases hlt3 : a2 + 2 * bs ≤ sz
            · have hlt3z : (a2 : Int) + 2 * (bs : Int) ≤ (sz : Int) := by omega
              obtain ⟨U, V, T2, hT, hU, hV⟩ : ∃ U V T2, T = U ++ (V ++ T2) ∧ U.length = bs ∧ V.length = bs := by
                refine ⟨T.take bs, (T.drop bs).take bs, (T.drop bs).drop bs, by rw [List.take_append_drop, List.take_append_drop], ?_, ?_⟩ <;>
                · obtain ⟨p, h1, h2, h3, _⟩ := HB.out; simp; omega
              subst hT
              have sU : SortedL (ltOf cf) U := by obtain ⟨p, _, _, _, _, h, _⟩ := HB.out; exact h.head hU
              have bV : Blocks (ltOf cf) bs (V ++ T2) := by obtain ⟨p, _, _, _, _, h, _⟩ := HB.out; exact h.tail hU
              have sV := bV.head hV
              have bT := bV.tail hV
              have hc := HM.out (2 * bs) a2 (a2 + bs) (a2 + 2 * bs) Pf2 U V T2 wr (by omega) (by obtain ⟨p, h1, h2, _⟩ := HB.out; omega) (by obtain ⟨p, h1, h2, _⟩ := HB.out; omega) (by obtain ⟨p, h1, h2, _⟩ := HB.out; omega) (by omega) (by omega) (by obtain ⟨p, h1, h2, h3, _⟩ := HB.out; simp at h3; omega) sU sV (StRow.cong S5.out (by simp))
              rw [show ((a2 + bs : Nat) : Int) = (a2 : Int) + (bs : Int) from by omega, show ((a2 + 2 * bs : Nat) : Int) = (a2 : Int) + 2 * (bs : Int) from by omega] at hc
              have HC : Hid (type_of% hc) := hc
              have HB2 : Hid (∀ W, Stab (ltOf cf) (U ++ V) W → SortedL (ltOf cf) W → ∃ p, a2 + 2 * bs = p * (2 * bs) ∧ (Pf2 ++ W).length = a2 + 2 * bs ∧ (Pf2 ++ W).length + T2.length = sz ∧ Blocks (ltOf cf) (2 * bs) (Pf2 ++ W) ∧ Blocks (ltOf cf) bs T2 ∧ Stab (ltOf cf) l0 ((Pf2 ++ W) ++ T2)) := by
                intro W tW sW
                obtain ⟨p, h1, h2, h3, h4, h5, h6⟩ := HB.out
                have hWl := tW.length HO.out
                simp at hWl h3
                refine ⟨p + 1, by rw [Nat.add_mul, Nat.one_mul]; omega, by simp; omega, by simp; omega, h4.snoc (p := p) (by omega) sW (by omega), bT, h6.trans ?_⟩
                rw [← List.append_assoc U, List.append_assoc Pf2 W]
                exact (Stab.refl Pf2).append (tW.append (Stab.refl T2))
              clear hc sU bV sV bT HB S5 hU hV
              go_wp2_with (go_at_fn 50; refine HC.out.mono ?_; rintro e w' ⟨rfl, W, S6, sW, tW⟩; have S7 : Aside (SWK enc k w0 blk off ((Pf2 ++ W) ++ T2).toArray w') := S6; have HB3 := HB2.out W tW sW; have HB4 : Hid (type_of% HB3) := HB3; clear S6 sW tW HB3)
              go_roundg (sz - (a2 + 2 * bs))
              case measure => omega
              case rel => exact ⟨a2 + 2 * bs, Pf2 ++ W, T2, by first | rfl | go_num, by first | rfl | go_num, hlt3, Nat.le_refl _, HB4, S7⟩
            · have hlt3z : ¬ ((a2 : Int) + 2 * (bs : Int) ≤ (sz : Int)) := by omega
              by_cases hlt4 : a2 + bs < sz
              · have hlt4z : (a2 : Int) + (bs : Int) < (sz : Int) := by omega
                obtain ⟨U, V, hT, hU⟩ : ∃ U V, T = U ++ V ∧ U.length = bs := by
                  refine ⟨T.take bs, T.drop bs, (List.take_append_drop _ _).symm, ?_⟩
                  obtain ⟨p, h1, h2, h3, _⟩ := HB.out; simp; omega
                subst hT
                have hV : V.length = sz - (a2 + bs) := by obtain ⟨p, h1, h2, h3, _⟩ := HB.out; simp at h3; omega
                have sU : SortedL (ltOf cf) U := by obtain ⟨p, _, _, _, _, h, _⟩ := HB.out; exact h.head hU
                have sV : SortedL (ltOf cf) V := by obtain ⟨p, _, _, _, _, h, _⟩ := HB.out; exact (h.tail hU).whole (by omega)
                have hc := HM.out (2 * bs) a2 (a2 + bs) sz Pf2 U V [] wr (by omega) (by obtain ⟨p, h1, h2, _⟩ := HB.out; omega) (by obtain ⟨p, h1, h2, _⟩ := HB.out; omega) (by obtain ⟨p, h1, h2, _⟩ := HB.out; omega) (by omega) (by omega) (by obtain ⟨p, h1, h2, h3, _⟩ := HB.out; simp at h3 ⊢; omega) sU sV (StRow.cong S5.out (by simp))
                rw [show ((a2 + bs : Nat) : Int) = (a2 : Int) + (bs : Int) from by omega] at hc
                have HC : Hid (type_of% hc) := hc
                have HB2 : Hid (∀ W, Stab (ltOf cf) (U ++ V) W → SortedL (ltOf cf) W → (Pf2 ++ W).length = sz ∧ Blocks (ltOf cf) (2 * bs) (Pf2 ++ W) ∧ Stab (ltOf cf) l0 (Pf2 ++ W)) := by
                  intro W tW sW
                  obtain ⟨p, h1, h2, h3, h4, h5, h6⟩ := HB.out
                  have hWl := tW.length HO.out
                  simp at hWl h3
                  exact ⟨by simp; omega, h4.snoc (p := p) (by omega) sW (by omega), h6.trans ((Stab.refl Pf2).append tW)⟩
                clear hc sU sV HB S5 hU hV
                go_wp2_with (go_at_fn 50; refine HC.out.mono ?_; rintro e w' ⟨rfl, W, S6, sW, tW⟩; have S7 : Aside (SWK enc k w0 blk off (Pf2 ++ W).toArray w') := StRow.cong S6 (by simp); have HB3 := HB2.out W tW sW; have HB4 : Hid (type_of% HB3) := HB3; clear S6 sW tW HB3)
                go_roundg (sz - 2 * bs)
                case measure => omega
                case rel => exact ⟨2 * bs, Pf2 ++ W, by first | rfl | go_num, by omega, by omega, HB4, S7⟩
              · have hlt4z : ¬ ((a2 : Int) + (bs : Int) < (sz : Int)) := by omega
                have HB4 : Hid ((Pf2 ++ T).length = sz ∧ Blocks (ltOf cf) (2 * bs) (Pf2 ++ T) ∧ Stab (ltOf cf) l0 (Pf2 ++ T)) := by
                  obtain ⟨p, h1, h2, h3, h4, h5, h6⟩ := HB.out
                  exact ⟨by simp; omega, h4.snoc (p := p) (by omega) (h5.whole (by omega)) (by omega), h6⟩
                clear HB
                go_wp2
                go_roundg (sz - 2 * bs)
                case measure => omega
                case rel => exact ⟨2 * bs, Pf2 ++ T, by first | rfl | go_num, by omega, by omega, HB4, S5⟩
        · have hlt2z : ¬ ((bs : Int) < (sz : Int)) := by omega
          go_wp2
          go_end0
          exact ⟨rfl, l, S4.out, HL2.out.2.1.whole (by have := HL2.out.1; omega), HL2.out.2.2⟩

set_option maxHeartbeats 1000000 in
/-- slices.SortStableFunc: the row sorted, equals in their order. -/
theorem StRow.sortStable {k : Nat} (L : StRowF P k) (enc : α → List Value) (cf : α → α → Int) (hO : SWO (ltOf cf)) (g : Nat) (cb : Array Value) (blk off cap sz : Nat) (d0 : Array α) (w0 : World) (R : RowK enc k w0 blk off d0)
    (eg : ∀ args w, (callFunc g args).run P w = .ok (.enter g args) w) (hcmp : CmpLays P g cb enc k cf blk off sz w0) (hs : d0.size = sz) (hbig : sz < 4611686018427387904) (hins : StRow.Ins P enc k cf g cb blk off cap sz w0)
    (l0 : List α) (w : World) (hl : l0.length = sz) (S : SWK enc k w0 blk off l0.toArray w) :
    Calls P 21 #[.slice (some ⟨blk, off, none⟩) sz cap, .func (.func g) #[] cb] w fun e w' => e = .returned (.tuple #[]) ∧ ∃ W, SWK enc k w0 blk off W.toArray w' ∧ SortedL (ltOf cf) W ∧ Stab (ltOf cf) l0 W := by
  have hm := StRow.stable L enc cf hO g cb blk off cap sz d0 w0 R eg hcmp hs hbig hins l0 w hl S
  have mixed := L.mixed; have t3 := L.t3; have a3 := L.a3; have z3 := L.z3; have v3 := L.v3; have t4 := L.t4; have a4 := L.a4; have z4 := L.z4; have v4 := L.v4; have t22 := L.t22; have a22 := L.a22; have z22 := L.z22; have v22 := L.v22; have t25 := L.t25; have a25 := L.a25; have z25 := L.z25; have v25 := L.v25; have aE := L.aE; have zE := L.zE
  have e39 : ∀ args w, (callFunc 39 args).run P w = .ok (.enter 39 args) w := enters_of L.fstab (by kernel_rfl) rfl
  have HM : Hid (type_of% hm) := hm
  clear hm hins hO hl S hcmp
  go_enter L.fsort, Try.ntmps21
  go_wp2_with (go_at_fn 39; refine HM.out.mono ?_; rintro e w' ⟨rfl, W, S6, sW, tW⟩)
  go_end0
  exact ⟨rfl, W, S6, sW, tW⟩

set_option maxHeartbeats 1000000 in
/-- The empty row. -/
theorem StRow.sortStable_none {k : Nat} (L : StRowF P k) (g cap : Nat) (cb : Array Value) (w : World) :
    Calls P 21 #[.slice none 0 cap, .func (.func g) #[] cb] w fun e w' => e = .returned (.tuple #[]) ∧ w' = w := by
  have h1 : Calls P 49 #[.slice none 0 cap, .int .i64 0, .int .i64 0, .func (.func g) #[] cb] w fun e w' => e = .returned (.tuple #[]) ∧ w' = w := by
    have mixed := L.mixed; have t3 := L.t3; have a3 := L.a3; have z3 := L.z3; have v3 := L.v3; have t4 := L.t4; have a4 := L.a4; have z4 := L.z4; have v4 := L.v4; have t22 := L.t22; have a22 := L.a22; have z22 := L.z22; have v22 := L.v22; have t25 := L.t25; have a25 := L.a25; have z25 := L.z25; have v25 := L.v25; have aE := L.aE; have zE := L.zE
    go_enter L.fins, Try.ntmps49
    go_wp2
    go_loopg [8] 0 (fun _ s8 wr => s8 = .int .i64 1 ∧ wr = w)
    case atStart => exact ⟨by first | rfl | go_num, rfl⟩
    case round =>
      obtain ⟨rfl, rfl⟩ := hrel
      go_wp2
      go_end0
      exact ⟨rfl, rfl⟩
  have h2 : Calls P 39 #[.slice none 0 cap, .int .i64 0, .func (.func g) #[] cb] w fun e w' => e = .returned (.tuple #[]) ∧ w' = w := by
    have mixed := L.mixed; have t3 := L.t3; have a3 := L.a3; have z3 := L.z3; have v3 := L.v3; have t4 := L.t4; have a4 := L.a4; have z4 := L.z4; have v4 := L.v4; have t22 := L.t22; have a22 := L.a22; have z22 := L.z22; have v22 := L.v22; have t25 := L.t25; have a25 := L.a25; have z25 := L.z25; have v25 := L.v25; have aE := L.aE; have zE := L.zE
    have e49 : ∀ args w, (callFunc 49 args).run P w = .ok (.enter 49 args) w := enters_of L.fins (by kernel_rfl) rfl
    go_enter L.fstab, Try.ntmps39
    go_wp2
    go_loopg [7, 8] 0 (fun _ s7 s8 wr => s7 = .int .i64 0 ∧ s8 = .int .i64 20 ∧ wr = w)
    case atStart => exact ⟨by first | rfl | go_num, by first | rfl | go_num, rfl⟩
    case round =>
      obtain ⟨rfl, rfl, rfl⟩ := hrel
      go_wp2_with (go_at_fn 49; refine h1.mono ?_; rintro e wz ⟨rfl, rfl⟩)
      go_loopg [6] 0 (fun _ s6 wr => s6 = .int .i64 20 ∧ wr = wz)
      case atStart => exact ⟨by first | rfl | go_num, rfl⟩
      case round =>
        obtain ⟨rfl, rfl⟩ := hrel
        go_wp2
        go_end0
        exact ⟨rfl, rfl⟩
  have mixed := L.mixed; have t3 := L.t3; have a3 := L.a3; have z3 := L.z3; have v3 := L.v3; have t4 := L.t4; have a4 := L.a4; have z4 := L.z4; have v4 := L.v4; have t22 := L.t22; have a22 := L.a22; have z22 := L.z22; have v22 := L.v22; have t25 := L.t25; have a25 := L.a25; have z25 := L.z25; have v25 := L.v25; have aE := L.aE; have zE := L.zE
  have e39 : ∀ args w, (callFunc 39 args).run P w = .ok (.enter 39 args) w := enters_of L.fstab (by kernel_rfl) rfl
  go_enter L.fsort, Try.ntmps21
  go_wp2_with (go_at_fn 39; refine h2.mono ?_; rintro e w' ⟨rfl, rfl⟩)
  go_end0
  exact ⟨rfl, rfl⟩
end Go.Proofs.Ytgdmdhhihoifkaa

namespace Go.Proofs.Ytgdmdhhihoifkaa
open Go.Shelf Go.RowKit Go.Lib Go.Sort

structure StChF (P : Program) (k : Nat) : Prop where
  mixed : P.follows .mixedOrders = true
  t0 : P.underlying 0 = some (TypeDesc.tuple #[])
  t3 : P.underlying 3 = some (TypeDesc.int IntKind.i64)
  a3 : ∀ w, (isAgg 3).run P w = .ok false w
  z3 : ∀ w, (Go.sizeOf 3).run P w = .ok 1 w
  v3 : ∀ w, (zeroValue 3).run P w = .ok (Value.int IntKind.i64 0) w
  t4 : P.underlying 4 = some (TypeDesc.bool)
  a4 : ∀ w, (isAgg 4).run P w = .ok false w
  z4 : ∀ w, (Go.sizeOf 4).run P w = .ok 1 w
  v4 : ∀ w, (zeroValue 4).run P w = .ok (Value.bool false) w
  t22 : P.underlying 22 = some (TypeDesc.slice 29)
  a22 : ∀ w, (isAgg 22).run P w = .ok false w
  z22 : ∀ w, (Go.sizeOf 22).run P w = .ok 1 w
  v22 : ∀ w, (zeroValue 22).run P w = .ok (Value.slice none 0 0) w
  t25 : P.underlying 61 = some (TypeDesc.func #[29, 29] #[3] false)
  a25 : ∀ w, (isAgg 61).run P w = .ok false w
  z25 : ∀ w, (Go.sizeOf 61).run P w = .ok 1 w
  v25 : ∀ w, (zeroValue 61).run P w = .ok (Value.nilFunc) w
  t84 : P.underlying 84 = some (TypeDesc.int IntKind.u64)
  a84 : ∀ w, (isAgg 84).run P w = .ok false w
  z84 : ∀ w, (Go.sizeOf 84).run P w = .ok 1 w
  v84 : ∀ w, (zeroValue 84).run P w = .ok (Value.int IntKind.u64 0) w
  aE : ∀ w, (isAgg 29).run P w = .ok true w
  zE : ∀ w, (Go.sizeOf 29).run P w = .ok k w
  fswap : P.funcs[84]? = some Try.f84
  frot : P.funcs[74]? = some Try.f74
  fins : P.funcs[52]? = some Try.f52
  fsym : P.funcs[53]? = some Try.f53
  fstab : P.funcs[42]? = some Try.f42
  fsort : P.funcs[27]? = some Try.f27

theorem StChF.here : StChF Try.prog 5 :=
  ⟨by kernel_rfl, Try.underlying0, Try.underlying3, Try.isAgg3, Try.sizeOf3, Try.zeroValue3, Try.underlying4, Try.isAgg4, Try.sizeOf4, Try.zeroValue4, Try.underlying22, Try.isAgg22, Try.sizeOf22, Try.zeroValue22,
    Try.underlying61, Try.isAgg61, Try.sizeOf61, Try.zeroValue61, Try.underlying84, Try.isAgg84, Try.sizeOf84, Try.zeroValue84, Try.isAgg29, Try.sizeOf29, Try.func84, Try.func74, Try.func52, Try.func53, Try.func42, Try.func27⟩

variable {P : Program} {α : Type} [Inhabited α]

theorem StCh.cong {enc : α → List Value} {k : Nat} {w0 w : World} {blk off : Nat} {X Y : List α} (S : SWK enc k w0 blk off X.toArray w) (h : X = Y) : SWK enc k w0 blk off Y.toArray w := h ▸ S

set_option maxHeartbeats 4000000 in
set_option maxRecDepth 1000000 in
/-- Two ranges of one length exchanged. -/
theorem StCh.swapRange {k : Nat} (L : StChF P k) (enc : α → List Value) (g : Nat) (cb : Array Value) (blk off cap a b n sz : Nat) (X U M V Y : List α) (d0 : Array α) (w0 w : World) (R : RowK enc k w0 blk off d0)
    (ha : a = X.length) (hb : b = X.length + U.length + M.length) (hn : n = U.length) (hv : V.length = n) (hz : sz = X.length + U.length + M.length + V.length + Y.length) (hs : d0.size = sz) (hbig : sz < 4611686018427387904)
    (S : SWK enc k w0 blk off (X ++ U ++ M ++ V ++ Y).toArray w) :
    Calls P 84 #[.slice (some ⟨blk, off, none⟩) sz cap, .int .i64 a, .int .i64 b, .int .i64 n, .func (.func g) #[] cb] w fun e w' => e = .returned (.tuple #[]) ∧ SWK enc k w0 blk off (X ++ V ++ M ++ U ++ Y).toArray w' := by
  have mixed := L.mixed; have t3 := L.t3; have a3 := L.a3; have z3 := L.z3; have v3 := L.v3; have t4 := L.t4; have a4 := L.a4; have z4 := L.z4; have v4 := L.v4; have t22 := L.t22; have a22 := L.a22; have z22 := L.z22; have v22 := L.v22; have t25 := L.t25; have a25 := L.a25; have z25 := L.z25; have v25 := L.v25; have aE := L.aE; have zE := L.zE
  have HE : Hid (a = X.length ∧ b = X.length + U.length + M.length ∧ n = U.length ∧ V.length = n ∧ sz = X.length + U.length + M.length + V.length + Y.length ∧ d0.size = sz) := ⟨ha, hb, hn, hv, hz, hs⟩
  have S0 : Aside (SWK enc k w0 blk off (X ++ U ++ M ++ V ++ Y).toArray w) := S
  have b1 : a + n ≤ b := by omega
  have b2 : b + n ≤ sz := by omega
  clear S ha hb hn hv hz hs
  go_enter L.fswap, Try.ntmps84
  go_wp2
  go_loopg [10] n (fun gk s10 wr => ∃ (i : Nat) (U1 U2 V1 V2 : List α), s10 = .int .i64 i ∧ i ≤ n ∧ n - i ≤ gk ∧ Hid (U = U1 ++ U2 ∧ V = V1 ++ V2 ∧ U1.length = i ∧ V1.length = i) ∧ Aside (SWK enc k w0 blk off (X ++ V1 ++ U2 ++ M ++ U1 ++ V2 ++ Y).toArray wr))
  case atStart => exact ⟨0, [], U, [], V, rfl, Nat.zero_le _, by omega, ⟨rfl, rfl, rfl, rfl⟩, by rw [List.append_nil, List.append_nil]; exact S0⟩
  case round =>
    clear S0
    obtain ⟨i, U1, U2, V1, V2, rfl, hin, hg, HU, S1⟩ := hrel
    by_cases hlt : i < n
    · have hltz : (i : Int) < (n : Int) := by omega
      obtain ⟨u, U3, hU2⟩ : ∃ u U3, U2 = u :: U3 := by
        cases U2 with
        | nil => exfalso; have h1 := HU.out; have h2 := HE.out; rw [h1.1] at h2; simp at h2; omega
        | cons u U3 => exact ⟨u, U3, rfl⟩
      obtain ⟨v, V3, hV2⟩ : ∃ v V3, V2 = v :: V3 := by
        cases V2 with
        | nil => exfalso; have h1 := HU.out; have h2 := HE.out; rw [h1.2.1] at h2; simp at h2; omega
        | cons v V3 => exact ⟨v, V3, rfl⟩
      subst hU2 hV2
      have hsz' : ((X ++ V1) ++ u :: ((U3 ++ M ++ U1) ++ v :: (V3 ++ Y))).toArray.size = d0.size := by
        have h1 := HU.out; have h2 := HE.out; rw [h1.1, h1.2.1] at h2; simp at h2 ⊢; omega
      have hbnd : ((X ++ V1) ++ u :: ((U3 ++ M ++ U1) ++ v :: (V3 ++ Y))).toArray.size = sz := hsz'.trans HE.out.2.2.2.2.2
      have hi0 : a + i = (X ++ V1).length := by have h1 := HU.out; have h2 := HE.out; simp; omega
      have hj0 : b + i = (X ++ V1).length + 1 + (U3 ++ M ++ U1).length := by have h1 := HU.out; have h2 := HE.out; rw [h1.1] at h2; simp at h2 ⊢; omega
      have S2 : Aside (SWK enc k w0 blk off ((X ++ V1) ++ u :: ((U3 ++ M ++ U1) ++ v :: (V3 ++ Y))).toArray wr) := by
        have e : ((X ++ V1) ++ u :: ((U3 ++ M ++ U1) ++ v :: (V3 ++ Y))) = X ++ V1 ++ (u :: U3) ++ M ++ U1 ++ (v :: V3) ++ Y := by simp [List.append_assoc]
        rw [e]; exact S1
      have gi : ((X ++ V1) ++ u :: ((U3 ++ M ++ U1) ++ v :: (V3 ++ Y))).toArray[a + i]! = u := by rw [hi0]; exact get_mid _ _ _
      have gj : ((X ++ V1) ++ u :: ((U3 ++ M ++ U1) ++ v :: (V3 ++ Y))).toArray[b + i]! = v := by
        have := get_mid ((X ++ V1) ++ u :: (U3 ++ M ++ U1)) v (V3 ++ Y)
        have e : ((X ++ V1) ++ u :: (U3 ++ M ++ U1)) ++ v :: (V3 ++ Y) = ((X ++ V1) ++ u :: ((U3 ++ M ++ U1) ++ v :: (V3 ++ Y))) := by simp
        rw [e] at this
        have hl : (X ++ V1).length + 1 + (U3 ++ M ++ U1).length = ((X ++ V1) ++ u :: (U3 ++ M ++ U1)).length := by simp only [List.length_append, List.length_cons]; omega
        rw [hj0, hl]; exact this
      have hsw := swp_split (X ++ V1) (U3 ++ M ++ U1) (V3 ++ Y) u v (a + i) (b + i) hi0 hj0
      have S3 := S2.out.swapped R (a + i) (b + i) (by omega) (by omega)
      have l1 := S2.out.ld1 R hsz' P (a + i) (by omega)
      have l2 := S2.out.ld1 R hsz' P (b + i) (by omega)
      have s1 := S2.out.st1 R hsz' P (a + i) (by omega) v
      have s2 := S2.out.st2 R hsz' P (a + i) (b + i) (by omega) (by omega) v u
      rw [hsw, gi, gj] at S3
      rw [gi] at l1
      rw [gj] at l2
      have S3' : Aside _ := S3
      have HW : Hid ((X ++ V1) ++ v :: ((U3 ++ M ++ U1) ++ u :: (V3 ++ Y)) = X ++ (V1 ++ [v]) ++ U3 ++ M ++ (U1 ++ [u]) ++ V3 ++ Y) := by show _ = _; simp [List.append_assoc]
      have HU' : Hid (U = (U1 ++ [u]) ++ U3 ∧ V = (V1 ++ [v]) ++ V3 ∧ (U1 ++ [u]).length = i + 1 ∧ (V1 ++ [v]).length = i + 1) := by
        have h1 := HU.out
        exact ⟨by rw [h1.1]; simp, by rw [h1.2.1]; simp, by simp; omega, by simp; omega⟩
      clear hsz' hbnd hi0 hj0 S1 S2 gi gj hsw S3 HU
      have n1 : (enc u).length = k := R.hk _
      have n2 : (enc v).length = k := R.hk _
      generalize enc u = cI at S3' l1 s2 n1
      generalize enc v = cJ at S3' l2 s1 s2 n2
      have ea : ((a : Int) + (i : Int)).toNat = a + i := by omega
      have pa : (0 : Int) ≤ (a : Int) + (i : Int) := by omega
      have ba : (a : Int) + (i : Int) < (sz : Int) := by omega
      have ra : IntKind.i64.wrap ((a : Int) + (i : Int)) = (a : Int) + (i : Int) := by rw [IntKind.wrap_i64]; omega
      have ec : ((b : Int) + (i : Int)).toNat = b + i := by omega
      have pc : (0 : Int) ≤ (b : Int) + (i : Int) := by omega
      have bc : (b : Int) + (i : Int) < (sz : Int) := by omega
      have rc : IntKind.i64.wrap ((b : Int) + (i : Int)) = (b : Int) + (i : Int) := by rw [IntKind.wrap_i64]; omega
      go_wp2_with fail
      go_big_region_o
      clear l1 l2 s1 s2 ea ec ra rc
      generalize (wr.drew.setCells blk (off + (a + i) * k) cJ).setCells blk (off + (b + i) * k) cI = w2 at S3' ⊢
      go_wp2
      go_roundg (n - (i + 1))
      case measure => omega
      case rel => exact ⟨i + 1, U1 ++ [u], U3, V1 ++ [v], V3, by go_num, by omega, Nat.le_refl _, HU', by rw [← HW.out]; exact S3'⟩
    · go_wp2
      go_end0
      refine ⟨rfl, ?_⟩
      have h1 := HU.out; have h2 := HE.out
      have hU2 : U2 = [] := by
        have := congrArg List.length h1.1; simp at this; exact List.eq_nil_of_length_eq_zero (by omega)
      have hV2 : V2 = [] := by
        have := congrArg List.length h1.2.1; simp at this; exact List.eq_nil_of_length_eq_zero (by omega)
      have S3 := S1.out
      rw [hU2, hV2] at S3
      rw [hU2, List.append_nil] at h1
      rw [h1.1, h1.2.1, hV2]
      simpa using S3
end Go.Proofs.Ytgdmdhhihoifkaa

namespace Go.Proofs.Ytgdmdhhihoifkaa
open Go.Shelf Go.RowKit Go.Lib Go.Sort
variable {P : Program} {α : Type} [Inhabited α]

set_option maxHeartbeats 4000000 in
set_option maxRecDepth 1000000 in
/-- Two blocks one behind the other, exchanged. -/
theorem StCh.rotate {k : Nat} (L : StChF P k) (enc : α → List Value) (g : Nat) (cb : Array Value) (blk off cap a m b sz : Nat) (X U V Y : List α) (d0 : Array α) (w0 w : World) (R : RowK enc k w0 blk off d0)
    (ha : a = X.length) (hm : m = X.length + U.length) (hb : b = X.length + U.length + V.length) (hU : 0 < U.length) (hV : 0 < V.length) (hz : sz = X.length + U.length + V.length + Y.length) (hs : d0.size = sz) (hbig : sz < 4611686018427387904)
    (S : SWK enc k w0 blk off (X ++ U ++ V ++ Y).toArray w) :
    Calls P 74 #[.slice (some ⟨blk, off, none⟩) sz cap, .int .i64 a, .int .i64 m, .int .i64 b, .func (.func g) #[] cb] w fun e w' => e = .returned (.tuple #[]) ∧ SWK enc k w0 blk off (X ++ V ++ U ++ Y).toArray w' := by
  have mixed := L.mixed; have t3 := L.t3; have a3 := L.a3; have z3 := L.z3; have v3 := L.v3; have t4 := L.t4; have a4 := L.a4; have z4 := L.z4; have v4 := L.v4; have t22 := L.t22; have a22 := L.a22; have z22 := L.z22; have v22 := L.v22; have t25 := L.t25; have a25 := L.a25; have z25 := L.z25; have v25 := L.v25; have aE := L.aE; have zE := L.zE
  have e83 : ∀ args w, (callFunc 84 args).run P w = .ok (.enter 84 args) w := enters_of L.fswap (by kernel_rfl) rfl
  have HE : Hid (a = X.length ∧ m = X.length + U.length ∧ b = X.length + U.length + V.length ∧ sz = X.length + U.length + V.length + Y.length ∧ d0.size = sz) := ⟨ha, hm, hb, hz, hs⟩
  have S0 : Aside (SWK enc k w0 blk off (X ++ U ++ V ++ Y).toArray w) := S
  have b1 : a < m := by omega
  have b2 : m < b := by omega
  have b3 : b ≤ sz := by omega
  clear S ha hm hb hU hV hz hs
  go_enter L.frot, Try.ntmps74
  go_wp2
  go_loopg [10, 11] (m - a + (b - m)) (fun gk s10 s11 wr => ∃ (i j : Nat) (A U1 V1 Z : List α), s10 = .int .i64 i ∧ s11 = .int .i64 j ∧ 1 ≤ i ∧ 1 ≤ j ∧ a + i ≤ m ∧ m + j ≤ b ∧ i + j ≤ gk ∧
    Hid (U1.length = i ∧ V1.length = j ∧ X.length + A.length + i = m ∧ V ++ U = A ++ V1 ++ U1 ++ Z) ∧ Aside (SWK enc k w0 blk off ((X ++ A) ++ U1 ++ V1 ++ (Z ++ Y)).toArray wr))
  case atStart =>
    refine ⟨m - a, b - m, [], U, V, [], ?_, ?_, by omega, by omega, by omega, by omega, Nat.le_refl _, ?_, ?_⟩
    · rw [show ((m - a : Nat) : Int) = (m : Int) - (a : Int) from by omega]
    · rw [show ((b - m : Nat) : Int) = (b : Int) - (m : Int) from by omega]
    · have h2 := HE.out
      exact ⟨by omega, by omega, by simp; omega, by simp⟩
    · rw [List.append_nil, List.nil_append]; exact S0
  case round =>
    clear S0
    obtain ⟨i, j, A, U1, V1, Z, rfl, rfl, hi1, hj1, hai, hmj, hg, HU, S1⟩ := hrel
    have hlen : X.length + A.length + U1.length + V1.length + Z.length + Y.length = sz := by
      have h1 := HU.out; have h2 := HE.out
      have h3 := congrArg List.length h1.2.2.2
      simp at h3; omega
    have HL : Aside (X.length + A.length + U1.length + V1.length + Z.length + Y.length = sz) := hlen
    clear hlen
    have zmi : ((m - i : Nat) : Int) = (m : Int) - (i : Int) := by omega
    rcases Nat.lt_trichotomy i j with hij | hij | hij
    · -- i < j: the last i of V1 come to the front
      have hne : ((i : Int) != (j : Int)) = true := by rw [bne_iff_ne]; omega
      have hgt : ¬ ((j : Int) < (i : Int)) := by omega
      have hijz : (i : Int) < (j : Int) := by omega
      obtain ⟨V2, V3, hV, hV2⟩ : ∃ V2 V3, V1 = V2 ++ V3 ∧ V2.length = j - i := ⟨V1.take (j - i), V1.drop (j - i), (List.take_append_drop _ _).symm, by have := HU.out; simp; omega⟩
      have hV3 : V3.length = i := by have h1 := HU.out; rw [hV] at h1; simp at h1; omega
      have hc := StCh.swapRange L enc g cb blk off cap (m - i) (m + j - i) i sz (X ++ A) U1 V2 V3 (Z ++ Y) d0 w0 wr R (by have h1 := HU.out; simp; omega) (by have h1 := HU.out; simp; omega) (by have h1 := HU.out; omega) hV3
        (by have h1 := HL.out; rw [hV] at h1; simp at h1 ⊢; omega) HE.out.2.2.2.2 hbig (by have := S1.out; rw [hV] at this; simpa [List.append_assoc] using this)
      rw [zmi, show ((m + j - i : Nat) : Int) = (m : Int) + (j : Int) - (i : Int) from by omega] at hc
      have HU2 : Hid (V3.length = i ∧ V2.length = j - i ∧ X.length + A.length + i = m ∧ V ++ U = A ++ V2 ++ V3 ++ (U1 ++ Z)) := by
        have h1 := HU.out
        exact ⟨hV3, hV2, h1.2.2.1, by rw [h1.2.2.2, hV]; simp⟩
      have HC : Hid (type_of% hc) := hc
      clear hc zmi hV hV2 hV3 HU S1 HL
      go_wp2_with (go_at_fn 84; refine HC.out.mono ?_; rintro e w' ⟨rfl, S2⟩; have S3 : Aside _ := S2; clear S2)
      go_roundg (i + (j - i))
      case measure => omega
      case rel => exact ⟨i, j - i, A, V3, V2, U1 ++ Z, rfl, by rw [show ((j - i : Nat) : Int) = (j : Int) - (i : Int) from by omega], hi1, by omega, hai, by omega, Nat.le_refl _, HU2, by exact StCh.cong S3.out (by simp [List.append_assoc])⟩
    · -- i = j
      subst hij
      have hne : ((i : Int) != (i : Int)) = false := by simp
      have hc := StCh.swapRange L enc g cb blk off cap (m - i) m i sz (X ++ A) U1 [] V1 (Z ++ Y) d0 w0 wr R (by have h1 := HU.out; simp; omega) (by have h1 := HU.out; simp; omega) (by have h1 := HU.out; omega) (by have h1 := HU.out; omega)
        (by have h1 := HL.out; simp; omega) HE.out.2.2.2.2 hbig (by have := S1.out; simpa [List.append_assoc] using this)
      rw [zmi] at hc
      have HC : Hid (type_of% hc) := hc
      clear hc zmi S1 HL
      go_wp2_with (go_at_fn 84; refine HC.out.mono ?_; rintro e w' ⟨rfl, S2⟩; have S3 : Aside _ := S2; clear S2)
      go_end0
      refine ⟨rfl, ?_⟩
      have h1 := HU.out.2.2.2
      have e : X ++ V ++ U ++ Y = (X ++ A) ++ V1 ++ [] ++ U1 ++ (Z ++ Y) := by
        rw [List.append_assoc X V U, h1]; simp [List.append_assoc]
      rw [e]
      exact S3.out
    · -- j < i: the first j of U1 go to the end
      have hne : ((i : Int) != (j : Int)) = true := by rw [bne_iff_ne]; omega
      have hgt : (j : Int) < (i : Int) := by omega
      obtain ⟨U2, U3, hU, hU2⟩ : ∃ U2 U3, U1 = U2 ++ U3 ∧ U2.length = j := ⟨U1.take j, U1.drop j, (List.take_append_drop _ _).symm, by have := HU.out; simp; omega⟩
      have hU3 : U3.length = i - j := by have h1 := HU.out; rw [hU] at h1; simp at h1; omega
      have hc := StCh.swapRange L enc g cb blk off cap (m - i) m j sz (X ++ A) U2 U3 V1 (Z ++ Y) d0 w0 wr R (by have h1 := HU.out; simp; omega) (by have h1 := HU.out; simp; omega) hU2.symm (by have h1 := HU.out; omega)
        (by have h1 := HL.out; rw [hU] at h1; simp at h1 ⊢; omega) HE.out.2.2.2.2 hbig (by have := S1.out; rw [hU] at this; simpa [List.append_assoc] using this)
      rw [zmi] at hc
      have HU4 : Hid (U3.length = i - j ∧ U2.length = j ∧ X.length + (A ++ V1).length + (i - j) = m ∧ V ++ U = (A ++ V1) ++ U2 ++ U3 ++ Z) := by
        have h1 := HU.out
        exact ⟨hU3, hU2, by simp; omega, by rw [h1.2.2.2, hU]; simp⟩
      have HC : Hid (type_of% hc) := hc
      clear hc zmi hU hU2 hU3 HU S1 HL
      go_wp2_with (go_at_fn 84; refine HC.out.mono ?_; rintro e w' ⟨rfl, S2⟩; have S3 : Aside _ := S2; clear S2)
      go_roundg (i - j + j)
      case measure => omega
      case rel => exact ⟨i - j, j, A ++ V1, U3, U2, Z, by rw [show ((i - j : Nat) : Int) = (i : Int) - (j : Int) from by omega], rfl, by omega, hj1, by omega, hmj, Nat.le_refl _, HU4, by exact StCh.cong S3.out (by simp [List.append_assoc])⟩
end Go.Proofs.Ytgdmdhhihoifkaa

namespace Go.Proofs.Ytgdmdhhihoifkaa
open Go.Shelf Go.RowKit Go.Lib Go.Sort
variable {P : Program} {α : Type} [Inhabited α]

set_option maxHeartbeats 8000000 in
set_option maxRecDepth 1000000 in
/-- The merge where the first run has one element. -/
theorem StCh.symFirst {k : Nat} (L : StChF P k) (enc : α → List Value) (cf : α → α → Int) (hO : SWO (ltOf cf)) (g : Nat) (cb : Array Value) (blk off cap sz : Nat) (d0 : Array α) (w0 : World) (R : RowK enc k w0 blk off d0)
    (eg : ∀ args w, (callFunc g args).run P w = .ok (.enter g args) w) (hcmp : CmpLays P g cb enc k cf blk off sz w0) (hs : d0.size = sz) (hbig : sz < 4611686018427387904)
    (a m b : Nat) (X V Y : List α) (x : α) (w : World) (ha : a = X.length) (hm : m = X.length + 1) (hb : b = X.length + 1 + V.length) (hV : 0 < V.length) (hz : sz = X.length + 1 + V.length + Y.length)
    (sV : SortedL (ltOf cf) V) (S : SWK enc k w0 blk off (X ++ x :: (V ++ Y)).toArray w) :
    Calls P 53 #[.slice (some ⟨blk, off, none⟩) sz cap, .int .i64 a, .int .i64 m, .int .i64 b, .func (.func g) #[] cb] w fun e w' => e = .returned (.tuple #[]) ∧
      ∃ W, SWK enc k w0 blk off (X ++ W ++ Y).toArray w' ∧ SortedL (ltOf cf) W ∧ Stab (ltOf cf) ([x] ++ V) W := by
  have mixed := L.mixed; have t3 := L.t3; have a3 := L.a3; have z3 := L.z3; have v3 := L.v3; have t4 := L.t4; have a4 := L.a4; have z4 := L.z4; have v4 := L.v4; have t22 := L.t22; have a22 := L.a22; have z22 := L.z22; have v22 := L.v22; have t25 := L.t25; have a25 := L.a25; have z25 := L.z25; have v25 := L.v25; have aE := L.aE; have zE := L.zE; have t84 := L.t84; have a84 := L.a84; have z84 := L.z84; have v84 := L.v84; have u3 := run_underlying L.t3; have u84 := run_underlying L.t84
  have HC : Aside _ := hcmp
  have HO : Aside _ := hO
  have HV : Aside _ := sV
  obtain ⟨l, hl⟩ : ∃ l, l = X ++ x :: (V ++ Y) := ⟨_, rfl⟩
  rw [← hl] at S
  have HE : Hid (a = X.length ∧ m = X.length + 1 ∧ b = X.length + 1 + V.length ∧ sz = X.length + 1 + V.length + Y.length ∧ d0.size = sz ∧ l = X ++ x :: (V ++ Y) ∧ l.toArray.size = sz) :=
    ⟨ha, hm, hb, hz, hs, hl, by rw [hl]; simp; omega⟩
  have S0 : Aside (SWK enc k w0 blk off l.toArray w) := S
  have b1 : a + 1 ≤ m := by omega
  have b1' : m ≤ a + 1 := by omega
  have b2 : m < b := by omega
  have b3 : b ≤ sz := by omega
  have h1 : ((m : Int) - (a : Int) == 1) = true := by rw [beq_iff_eq]; omega
  clear S ha hm hb hz hs hcmp hl hO sV
  go_enter L.fsym, Try.ntmps53
  go_wp2
  go_loopg [10, 11] (b - m) (fun gk s10 s11 wr => ∃ i j : Nat, s10 = .int .i64 i ∧ s11 = .int .i64 j ∧ m ≤ i ∧ i ≤ j ∧ j ≤ b ∧ j - i ≤ gk ∧ Aside (SWK enc k w0 blk off l.toArray wr) ∧
    Aside ((i = m ∨ ltOf cf l.toArray[i - 1]! l.toArray[a]! = true) ∧ (j = b ∨ ltOf cf l.toArray[j]! l.toArray[a]! = false)))
  case atStart => exact ⟨m, b, rfl, rfl, Nat.le_refl _, by omega, Nat.le_refl _, Nat.le_refl _, S0, ⟨.inl rfl, .inl rfl⟩⟩
  case round =>
    clear S0
    obtain ⟨i, j, rfl, rfl, hmi, hij, hjb, hg, S1, I⟩ := hrel
    by_cases hlt : i < j
    · obtain ⟨h, hh⟩ : ∃ h, h = (i + j) / 2 := ⟨_, rfl⟩
      have hz1 : ((i : Int) + (j : Int)) / 2 = (h : Int) := by omega
      have hih : i ≤ h := by omega
      have hhj : h < j := by omega
      clear hh
      have hltz : (i : Int) < (j : Int) := by omega
      have hsz := HE.out.2.2.2.2.2.2
      have l1 := S1.out.ld R (by rw [hsz]; exact HE.out.2.2.2.2.1.symm) P h (by rw [hsz]; omega)
      have l2 := S1.out.ld R (by rw [hsz]; exact HE.out.2.2.2.2.1.symm) P a (by rw [hsz]; omega)
      obtain ⟨y, hy⟩ : ∃ y, y = l.toArray[h]! := ⟨_, rfl⟩
      obtain ⟨x1, hx1⟩ : ∃ y, y = l.toArray[a]! := ⟨_, rfl⟩
      rw [← hy] at l1
      rw [← hx1] at l2
      have hc := S1.out.cmp HC.out hsz y x1
      have HY : Hid (y = l.toArray[h]! ∧ x1 = l.toArray[a]!) := ⟨hy, hx1⟩
      clear hsz hy hx1
      have pa1 : (0 : Int) ≤ (h : Int) := by omega
      have ba1 : (h : Int) < (sz : Int) := by omega
      have pa2 : (0 : Int) ≤ (a : Int) := by omega
      have ba2 : (a : Int) < (sz : Int) := by omega
      by_cases hlv : cf y x1 < 0
      · have hdv : decide (cf y x1 < 0) = true := decide_eq_true hlv
        go_wp2_with fail
        go_quiet_grown (first | (go_at_fn g; refine Calls.grown_of (hc _ _)))
        have S2 : Aside (SWK enc k w0 blk off l.toArray (grow (wr.drewN nq) osq)) := S1.out.grown nq osq
        clear l1 l2 hc S1
        generalize grow (wr.drewN nq) osq = wv at S2 ⊢
        clear nq osq
        go_wp2
        go_roundg (j - (h + 1))
        case measure => omega
        case rel =>
          have I2 : Aside ((h + 1 = m ∨ ltOf cf l.toArray[h + 1 - 1]! l.toArray[a]! = true) ∧ (j = b ∨ ltOf cf l.toArray[j]! l.toArray[a]! = false)) := ⟨.inr (by rw [Nat.add_sub_cancel, ← HY.out.1, ← HY.out.2]; exact hdv), I.out.2⟩
          exact ⟨h + 1, j, by go_num, rfl, by omega, by omega, hjb, Nat.le_refl _, S2, I2⟩
      · have hdv : decide (cf y x1 < 0) = false := decide_eq_false hlv
        go_wp2_with fail
        go_quiet_grown (first | (go_at_fn g; refine Calls.grown_of (hc _ _)))
        have S2 : Aside (SWK enc k w0 blk off l.toArray (grow (wr.drewN nq) osq)) := S1.out.grown nq osq
        clear l1 l2 hc S1
        generalize grow (wr.drewN nq) osq = wv at S2 ⊢
        clear nq osq
        go_wp2
        go_roundg (h - i)
        case measure => omega
        case rel =>
          have I2 : Aside ((i = m ∨ ltOf cf l.toArray[i - 1]! l.toArray[a]! = true) ∧ (h = b ∨ ltOf cf l.toArray[h]! l.toArray[a]! = false)) := ⟨I.out.1, .inr (by rw [← HY.out.1, ← HY.out.2]; exact hdv)⟩
          exact ⟨i, h, rfl, rfl, hmi, hih, by omega, Nat.le_refl _, S2, I2⟩
    · obtain rfl : j = i := by omega
      -- the place is found: V = A ++ B
      obtain ⟨A, B, hAB, hA⟩ : ∃ A B, V = A ++ B ∧ A.length = j - m := ⟨V.take (j - m), V.drop (j - m), (List.take_append_drop _ _).symm, by have := HE.out; simp; omega⟩
      have ex : l.toArray[a]! = x := by
        have h := HE.out
        rw [h.2.2.2.2.2.1, h.1]; exact get_mid X x _
      have fin : SortedL (ltOf cf) (A ++ x :: B) ∧ Stab (ltOf cf) (x :: (A ++ B)) (A ++ x :: B) := by
        have h := HE.out
        refine insert_left HO.out x A B (by rw [← hAB]; exact HV.out) ?_ ?_
        · intro y hy
          obtain ⟨A', rfl⟩ := List.getLast?_eq_some_iff.1 hy
          have hI := I.out.1.resolve_left (by simp at hA; omega)
          rw [ex] at hI
          have e : l = (X ++ x :: A') ++ y :: (B ++ Y) := by rw [h.2.2.2.2.2.1, hAB]; simp
          have := get_mid (X ++ x :: A') y (B ++ Y)
          rw [← e, show (X ++ x :: A').length = j - 1 from by simp at hA ⊢; omega] at this
          rw [this] at hI
          exact hI
        · intro y hy
          cases B with
          | nil => cases hy
          | cons z B' =>
            have hz : z = y := by simpa using hy
            subst hz
            have hlen := congrArg List.length hAB
            have hI := I.out.2.resolve_left (by simp at hlen; omega)
            rw [ex] at hI
            have e : l = (X ++ x :: A) ++ z :: (B' ++ Y) := by rw [h.2.2.2.2.2.1, hAB]; simp
            have := get_mid (X ++ x :: A) z (B' ++ Y)
            rw [← e, show (X ++ x :: A).length = j from by simp at hA ⊢; omega] at this
            rw [this] at hI
            exact hI
      have FIN : Hid (SortedL (ltOf cf) (A ++ x :: B) ∧ Stab (ltOf cf) ([x] ++ V) (A ++ x :: B)) := ⟨fin.1, by rw [hAB]; simpa using fin.2⟩
      have S2 : Aside (SWK enc k w0 blk off (X ++ x :: (A ++ (B ++ Y))).toArray wr) := by
        have := S1.out; rw [HE.out.2.2.2.2.2.1, hAB] at this; exact StCh.cong this (by simp)
      have HA : Hid (A.length = j - m ∧ V = A ++ B) := ⟨hA, hAB⟩
      have hnlt : ¬ ((j : Int) < (j : Int)) := by omega
      clear ex fin hA hAB S1 I HV HO hlt
      go_wp2
      go_loopg [13] (j - m) (fun gk s13 wq => ∃ (t : Nat) (A1 A2 : List α), s13 = .int .i64 t ∧ a ≤ t ∧ t + 1 ≤ j ∧ j - 1 - t ≤ gk ∧ Hid (A = A1 ++ A2 ∧ A1.length = t - a) ∧ Aside (SWK enc k w0 blk off ((X ++ A1) ++ x :: (A2 ++ (B ++ Y))).toArray wq))
      case atStart => exact ⟨a, [], A, rfl, Nat.le_refl _, by omega, by omega, ⟨rfl, by simp⟩, by rw [List.append_nil]; exact S2⟩
      case round =>
        rename_i wr0 _ _ _ _ _ _ _
        clear S2
        obtain ⟨t, A1, A2, rfl, hat, htj, hg2, HT, S3⟩ := hrel
        by_cases hlt2 : t < j - 1
        · have hlt2z : (t : Int) < (j : Int) - 1 := by omega
          obtain ⟨u, A3, hA2⟩ : ∃ u A3, A2 = u :: A3 := by
            cases A2 with
            | nil => exfalso; have h1 := HT.out; have h2 := HA.out; rw [h1.1] at h2; simp at h2; omega
            | cons u A3 => exact ⟨u, A3, rfl⟩
          subst hA2
          have hsz' : ((X ++ A1) ++ x :: ([] ++ u :: (A3 ++ (B ++ Y)))).toArray.size = d0.size := by
            have h1 := HT.out; have h2 := HA.out; have h3 := HE.out
            have h4 := congrArg List.length h2.2
            rw [h1.1] at h4; simp at h4 ⊢; omega
          have hbnd : ((X ++ A1) ++ x :: ([] ++ u :: (A3 ++ (B ++ Y)))).toArray.size = sz := hsz'.trans HE.out.2.2.2.2.1
          have hi0 : t = (X ++ A1).length := by have h1 := HT.out; have h3 := HE.out; simp; omega
          have S4 : Aside (SWK enc k w0 blk off ((X ++ A1) ++ x :: ([] ++ u :: (A3 ++ (B ++ Y)))).toArray wr) := S3
          have gi : ((X ++ A1) ++ x :: ([] ++ u :: (A3 ++ (B ++ Y)))).toArray[t]! = x := by rw [hi0]; exact get_mid _ _ _
          have gj : ((X ++ A1) ++ x :: ([] ++ u :: (A3 ++ (B ++ Y)))).toArray[t + 1]! = u := by
            have hl : (X ++ A1).length + 1 = ((X ++ A1) ++ [x]).length := by simp only [List.length_append, List.length_cons, List.length_nil]
            have := get_mid ((X ++ A1) ++ [x]) u (A3 ++ (B ++ Y))
            have e : ((X ++ A1) ++ [x]) ++ u :: (A3 ++ (B ++ Y)) = ((X ++ A1) ++ x :: ([] ++ u :: (A3 ++ (B ++ Y)))) := by simp
            rw [e] at this
            rw [hi0, hl]; exact this
          have hsw := swp_split (X ++ A1) [] (A3 ++ (B ++ Y)) x u t (t + 1) hi0 (by rw [hi0]; simp)
          have S5 := S4.out.swapped R t (t + 1) (by omega) (by omega)
          have l1 := S4.out.ld1 R hsz' P t (by omega)
          have l2 := S4.out.ld1 R hsz' P (t + 1) (by omega)
          have s1 := S4.out.st1 R hsz' P t (by omega) u
          have s2 := S4.out.st2 R hsz' P t (t + 1) (by omega) (by omega) u x
          rw [hsw, gi, gj] at S5
          rw [gi] at l1
          rw [gj] at l2
          have S5' : Aside _ := S5
          have HW : Hid ((X ++ A1) ++ u :: ([] ++ x :: (A3 ++ (B ++ Y))) = (X ++ (A1 ++ [u])) ++ x :: (A3 ++ (B ++ Y))) := by show _ = _; simp
          have HT' : Hid (A = (A1 ++ [u]) ++ A3 ∧ (A1 ++ [u]).length = t + 1 - a) := by
            have h1 := HT.out
            exact ⟨by rw [h1.1]; simp, by simp; omega⟩
          clear hsz' hbnd hi0 S3 S4 gi gj hsw S5 HT
          have n1 : (enc x).length = k := R.hk _
          have n2 : (enc u).length = k := R.hk _
          generalize enc x = cI at S5' l1 s2 n1
          generalize enc u = cJ at S5' l2 s1 s2 n2
          have ea : ((t : Int)).toNat = t := by omega
          have pa : (0 : Int) ≤ (t : Int) := by omega
          have ba : (t : Int) < (sz : Int) := by omega
          have ec : ((t : Int) + 1).toNat = t + 1 := by omega
          have pc : (0 : Int) ≤ (t : Int) + 1 := by omega
          have bc : (t : Int) + 1 < (sz : Int) := by omega
          have rc : IntKind.i64.wrap ((t : Int) + 1) = (t : Int) + 1 := by rw [IntKind.wrap_i64]; omega
          go_wp2_with fail
          go_big_region_o
          clear l1 l2 s1 s2 ea ec rc
          generalize (wr.drew.setCells blk (off + t * k) cJ).setCells blk (off + (t + 1) * k) cI = w2 at S5' ⊢
          go_wp2
          go_roundg (j - 1 - (t + 1))
          case measure => omega
          case rel => exact ⟨t + 1, A1 ++ [u], A3, by go_num, by omega, by omega, Nat.le_refl _, HT', by rw [← HW.out]; exact S5'⟩
        · have hnlt2 : ¬ ((t : Int) < (j : Int) - 1) := by omega
          go_wp2
          refine bodyPost_ret (results_none rfl _ _ _) rfl ?_
          have h1 := HT.out; have h2 := HA.out
          have hA2 : A2 = [] := by
            have := congrArg List.length h1.1; simp at this; exact List.eq_nil_of_length_eq_zero (by omega)
          have S5 := S3.out
          rw [hA2] at h1 S5
          rw [List.append_nil] at h1
          rw [← h1.1] at S5
          exact ⟨rfl, A ++ x :: B, by simpa using S5, FIN.out.1, FIN.out.2⟩
end Go.Proofs.Ytgdmdhhihoifkaa

namespace Go.Proofs.Ytgdmdhhihoifkaa
open Go.Shelf Go.RowKit Go.Lib Go.Sort
variable {P : Program} {α : Type} [Inhabited α]

set_option maxHeartbeats 8000000 in
set_option maxRecDepth 1000000 in
/-- The merge where the second run has one element. -/
theorem StCh.symLast {k : Nat} (L : StChF P k) (enc : α → List Value) (cf : α → α → Int) (hO : SWO (ltOf cf)) (g : Nat) (cb : Array Value) (blk off cap sz : Nat) (d0 : Array α) (w0 : World) (R : RowK enc k w0 blk off d0)
    (eg : ∀ args w, (callFunc g args).run P w = .ok (.enter g args) w) (hcmp : CmpLays P g cb enc k cf blk off sz w0) (hs : d0.size = sz) (hbig : sz < 4611686018427387904)
    (a m b : Nat) (X U Y : List α) (x : α) (w : World) (ha : a = X.length) (hm : m = X.length + U.length) (hb : b = X.length + U.length + 1) (hU : 1 < U.length) (hz : sz = X.length + U.length + 1 + Y.length)
    (sU : SortedL (ltOf cf) U) (S : SWK enc k w0 blk off (X ++ U ++ x :: Y).toArray w) :
    Calls P 53 #[.slice (some ⟨blk, off, none⟩) sz cap, .int .i64 a, .int .i64 m, .int .i64 b, .func (.func g) #[] cb] w fun e w' => e = .returned (.tuple #[]) ∧
      ∃ W, SWK enc k w0 blk off (X ++ W ++ Y).toArray w' ∧ SortedL (ltOf cf) W ∧ Stab (ltOf cf) (U ++ [x]) W := by
  have mixed := L.mixed; have t3 := L.t3; have a3 := L.a3; have z3 := L.z3; have v3 := L.v3; have t4 := L.t4; have a4 := L.a4; have z4 := L.z4; have v4 := L.v4; have t22 := L.t22; have a22 := L.a22; have z22 := L.z22; have v22 := L.v22; have t25 := L.t25; have a25 := L.a25; have z25 := L.z25; have v25 := L.v25; have aE := L.aE; have zE := L.zE; have t84 := L.t84; have a84 := L.a84; have z84 := L.z84; have v84 := L.v84; have u3 := run_underlying L.t3; have u84 := run_underlying L.t84
  have HC : Aside _ := hcmp
  have HO : Aside _ := hO
  have HV : Aside _ := sU
  obtain ⟨l, hl⟩ : ∃ l, l = X ++ U ++ x :: Y := ⟨_, rfl⟩
  rw [← hl] at S
  have HE : Hid (a = X.length ∧ m = X.length + U.length ∧ b = X.length + U.length + 1 ∧ sz = X.length + U.length + 1 + Y.length ∧ d0.size = sz ∧ l = X ++ U ++ x :: Y ∧ l.toArray.size = sz) :=
    ⟨ha, hm, hb, hz, hs, hl, by rw [hl]; simp; omega⟩
  have S0 : Aside (SWK enc k w0 blk off l.toArray w) := S
  have b1 : a + 1 < m := by omega
  have b2 : m + 1 ≤ b := by omega
  have b2' : b ≤ m + 1 := by omega
  have b3 : b ≤ sz := by omega
  have h1 : ((m : Int) - (a : Int) == 1) = false := by rw [beq_eq_false_iff_ne]; omega
  have h2 : ((b : Int) - (m : Int) == 1) = true := by rw [beq_iff_eq]; omega
  clear S ha hm hb hz hs hcmp hl hO sU
  go_enter L.fsym, Try.ntmps53
  go_wp2
  go_loopg [14, 15] (m - a) (fun gk s14 s15 wr => ∃ i j : Nat, s14 = .int .i64 i ∧ s15 = .int .i64 j ∧ a ≤ i ∧ i ≤ j ∧ j ≤ m ∧ j - i ≤ gk ∧ Aside (SWK enc k w0 blk off l.toArray wr) ∧
    Aside ((i = a ∨ ltOf cf l.toArray[m]! l.toArray[i - 1]! = false) ∧ (j = m ∨ ltOf cf l.toArray[m]! l.toArray[j]! = true)))
  case atStart => exact ⟨a, m, rfl, rfl, Nat.le_refl _, by omega, Nat.le_refl _, Nat.le_refl _, S0, ⟨.inl rfl, .inl rfl⟩⟩
  case round =>
    clear S0
    obtain ⟨i, j, rfl, rfl, hmi, hij, hjb, hg, S1, I⟩ := hrel
    by_cases hlt : i < j
    · obtain ⟨h, hh⟩ : ∃ h, h = (i + j) / 2 := ⟨_, rfl⟩
      have hz1 : ((i : Int) + (j : Int)) / 2 = (h : Int) := by omega
      have hih : i ≤ h := by omega
      have hhj : h < j := by omega
      clear hh
      have hltz : (i : Int) < (j : Int) := by omega
      have hsz := HE.out.2.2.2.2.2.2
      have l1 := S1.out.ld R (by rw [hsz]; exact HE.out.2.2.2.2.1.symm) P h (by rw [hsz]; omega)
      have l2 := S1.out.ld R (by rw [hsz]; exact HE.out.2.2.2.2.1.symm) P m (by rw [hsz]; omega)
      obtain ⟨y, hy⟩ : ∃ y, y = l.toArray[h]! := ⟨_, rfl⟩
      obtain ⟨x1, hx1⟩ : ∃ y, y = l.toArray[m]! := ⟨_, rfl⟩
      rw [← hy] at l1
      rw [← hx1] at l2
      have hc := S1.out.cmp HC.out hsz x1 y
      have HY : Hid (y = l.toArray[h]! ∧ x1 = l.toArray[m]!) := ⟨hy, hx1⟩
      clear hsz hy hx1
      have pa1 : (0 : Int) ≤ (h : Int) := by omega
      have ba1 : (h : Int) < (sz : Int) := by omega
      have pa2 : (0 : Int) ≤ (m : Int) := by omega
      have ba2 : (m : Int) < (sz : Int) := by omega
      by_cases hlv : cf x1 y < 0
      · have hdv : decide (cf x1 y < 0) = true := decide_eq_true hlv
        go_wp2_with fail
        go_quiet_grown (first | (go_at_fn g; refine Calls.grown_of (hc _ _)))
        have S2 : Aside (SWK enc k w0 blk off l.toArray (grow (wr.drewN nq) osq)) := S1.out.grown nq osq
        clear l1 l2 hc S1
        generalize grow (wr.drewN nq) osq = wv at S2 ⊢
        clear nq osq
        go_wp2
        go_roundg (h - i)
        case measure => omega
        case rel =>
          have I2 : Aside ((i = a ∨ ltOf cf l.toArray[m]! l.toArray[i - 1]! = false) ∧ (h = m ∨ ltOf cf l.toArray[m]! l.toArray[h]! = true)) := ⟨I.out.1, .inr (by rw [← HY.out.1, ← HY.out.2]; exact hdv)⟩
          exact ⟨i, h, rfl, rfl, hmi, hih, by omega, Nat.le_refl _, S2, I2⟩
      · have hdv : decide (cf x1 y < 0) = false := decide_eq_false hlv
        go_wp2_with fail
        go_quiet_grown (first | (go_at_fn g; refine Calls.grown_of (hc _ _)))
        have S2 : Aside (SWK enc k w0 blk off l.toArray (grow (wr.drewN nq) osq)) := S1.out.grown nq osq
        clear l1 l2 hc S1
        generalize grow (wr.drewN nq) osq = wv at S2 ⊢
        clear nq osq
        go_wp2
        go_roundg (j - (h + 1))
        case measure => omega
        case rel =>
          have I2 : Aside ((h + 1 = a ∨ ltOf cf l.toArray[m]! l.toArray[h + 1 - 1]! = false) ∧ (j = m ∨ ltOf cf l.toArray[m]! l.toArray[j]! = true)) := ⟨.inr (by rw [Nat.add_sub_cancel, ← HY.out.1, ← HY.out.2]; exact hdv), I.out.2⟩
          exact ⟨h + 1, j, by go_num, rfl, by omega, by omega, hjb, Nat.le_refl _, S2, I2⟩
    · obtain rfl : j = i := by omega
      -- the place is found: U = A ++ B
      obtain ⟨A, B, hAB, hA⟩ : ∃ A B, U = A ++ B ∧ A.length = j - a := ⟨U.take (j - a), U.drop (j - a), (List.take_append_drop _ _).symm, by have := HE.out; simp; omega⟩
      have ex : l.toArray[m]! = x := by
        have h := HE.out
        rw [h.2.2.2.2.2.1, h.2.1, ← List.length_append]; exact get_mid (X ++ U) x _
      have fin : SortedL (ltOf cf) (A ++ x :: B) ∧ Stab (ltOf cf) ((A ++ B) ++ [x]) (A ++ x :: B) := by
        have h := HE.out
        refine insert_right HO.out x A B (by rw [← hAB]; exact HV.out) ?_ ?_
        · intro y hy
          cases B with
          | nil => cases hy
          | cons z B' =>
            have hz : z = y := by simpa using hy
            subst hz
            have hlen := congrArg List.length hAB
            have hI := I.out.2.resolve_left (by simp at hlen; omega)
            rw [ex] at hI
            have e : l = (X ++ A) ++ z :: (B' ++ x :: Y) := by rw [h.2.2.2.2.2.1, hAB]; simp
            have := get_mid (X ++ A) z (B' ++ x :: Y)
            rw [← e, show (X ++ A).length = j from by simp; omega] at this
            rw [this] at hI
            exact hI
        · intro y hy
          obtain ⟨A', rfl⟩ := List.getLast?_eq_some_iff.1 hy
          have hI := I.out.1.resolve_left (by simp at hA; omega)
          rw [ex] at hI
          have e : l = (X ++ A') ++ y :: (B ++ x :: Y) := by rw [h.2.2.2.2.2.1, hAB]; simp
          have := get_mid (X ++ A') y (B ++ x :: Y)
          rw [← e, show (X ++ A').length = j - 1 from by simp at hA ⊢; omega] at this
          rw [this] at hI
          exact hI
      have FIN : Hid (SortedL (ltOf cf) (A ++ x :: B) ∧ Stab (ltOf cf) (U ++ [x]) (A ++ x :: B)) := ⟨fin.1, by rw [hAB]; exact fin.2⟩
      have S2 : Aside (SWK enc k w0 blk off ((X ++ A ++ B) ++ x :: ([] ++ Y)).toArray wr) := by
        have := S1.out; rw [HE.out.2.2.2.2.2.1, hAB] at this; exact StCh.cong this (by simp)
      have HA : Hid (A.length = j - a ∧ U = A ++ B) := ⟨hA, hAB⟩
      have hnlt : ¬ ((j : Int) < (j : Int)) := by omega
      clear ex fin hA hAB S1 I HV HO hlt
      go_wp2
      go_loopg [17] (m - j) (fun gk s17 wq => ∃ (t : Nat) (B1 B2 : List α), s17 = .int .i64 t ∧ j ≤ t ∧ t ≤ m ∧ t - j ≤ gk ∧ Hid (B = B1 ++ B2 ∧ B1.length = t - j) ∧ Aside (SWK enc k w0 blk off ((X ++ A ++ B1) ++ x :: (B2 ++ Y)).toArray wq))
      case atStart => exact ⟨m, B, [], rfl, hjb, Nat.le_refl _, Nat.le_refl _, ⟨by simp, by have h1 := HA.out; have h3 := HE.out; have h4 := congrArg List.length h1.2; simp at h4; omega⟩, S2⟩
      case round =>
        clear S2
        obtain ⟨t, B1, B2, rfl, hat, htj, hg2, HT, S3⟩ := hrel
        by_cases hlt2 : j < t
        · have hlt2z : (j : Int) < (t : Int) := by omega
          obtain ⟨B0, u, hB1⟩ : ∃ B0 u, B1 = B0 ++ [u] := by
            rcases List.eq_nil_or_concat B1 with h | ⟨B0, u, h⟩
            · exfalso; have h1 := HT.out; rw [h] at h1; simp at h1; omega
            · exact ⟨B0, u, by rw [h, List.concat_eq_append]⟩
          subst hB1
          have hsz' : ((X ++ A ++ B0) ++ u :: ([] ++ x :: (B2 ++ Y))).toArray.size = d0.size := by
            have h1 := HT.out; have h2 := HA.out; have h3 := HE.out
            have h4 := congrArg List.length h2.2
            rw [h1.1] at h4; simp at h4 ⊢; omega
          have hbnd : ((X ++ A ++ B0) ++ u :: ([] ++ x :: (B2 ++ Y))).toArray.size = sz := hsz'.trans HE.out.2.2.2.2.1
          obtain ⟨q, hq⟩ : ∃ q, t = q + 1 := ⟨t - 1, by omega⟩
          subst hq
          have hi0 : q = (X ++ A ++ B0).length := by have h1 := HT.out; have h2 := HA.out; have h3 := HE.out; simp at h1 ⊢; omega
          have S4 : Aside (SWK enc k w0 blk off ((X ++ A ++ B0) ++ u :: ([] ++ x :: (B2 ++ Y))).toArray wr) := by
            have e : ((X ++ A ++ B0) ++ u :: ([] ++ x :: (B2 ++ Y))) = (X ++ A ++ (B0 ++ [u])) ++ x :: (B2 ++ Y) := by simp
            rw [e]; exact S3
          have gi : ((X ++ A ++ B0) ++ u :: ([] ++ x :: (B2 ++ Y))).toArray[q]! = u := by rw [hi0]; exact get_mid _ _ _
          have gj : ((X ++ A ++ B0) ++ u :: ([] ++ x :: (B2 ++ Y))).toArray[q + 1]! = x := by
            have hl : (X ++ A ++ B0).length + 1 = ((X ++ A ++ B0) ++ [u]).length := by simp only [List.length_append, List.length_cons, List.length_nil]
            have := get_mid ((X ++ A ++ B0) ++ [u]) x (B2 ++ Y)
            have e : ((X ++ A ++ B0) ++ [u]) ++ x :: (B2 ++ Y) = ((X ++ A ++ B0) ++ u :: ([] ++ x :: (B2 ++ Y))) := by simp
            rw [e] at this
            rw [hi0, hl]; exact this
          have hsw := swp_split' (X ++ A ++ B0) [] (B2 ++ Y) u x q (q + 1) hi0 (by rw [hi0]; simp)
          have S5 := S4.out.swapped R (q + 1) q (by omega) (by omega)
          have l1 := S4.out.ld1 R hsz' P (q + 1) (by omega)
          have l2 := S4.out.ld1 R hsz' P q (by omega)
          have s1 := S4.out.st1 R hsz' P (q + 1) (by omega) u
          have s2 := S4.out.st2 R hsz' P (q + 1) q (by omega) (by omega) u x
          rw [hsw, gi, gj] at S5
          rw [gj] at l1
          rw [gi] at l2
          have S5' : Aside _ := S5
          have HW : Hid ((X ++ A ++ B0) ++ x :: ([] ++ u :: (B2 ++ Y)) = (X ++ A ++ B0) ++ x :: ((u :: B2) ++ Y)) := by show _ = _; simp
          have HT' : Hid (B = B0 ++ (u :: B2) ∧ B0.length = q - j) := by
            have h1 := HT.out
            exact ⟨by rw [h1.1]; simp, by have := h1.2; simp at this; omega⟩
          clear hsz' hbnd hi0 S3 S4 gi gj hsw S5 HT
          have n1 : (enc x).length = k := R.hk _
          have n2 : (enc u).length = k := R.hk _
          generalize enc x = cI at S5' l1 s2 n1
          generalize enc u = cJ at S5' l2 s1 s2 n2
          have zq : (((q + 1 : Nat) : Int)) = (q : Int) + 1 := by omega
          rw [zq] at hlt2z
          have ea : ((q : Int) + 1).toNat = q + 1 := by omega
          have pa : (0 : Int) ≤ (q : Int) + 1 := by omega
          have ba : (q : Int) + 1 < (sz : Int) := by omega
          have rq : IntKind.i64.wrap ((q : Int)) = (q : Int) := by rw [IntKind.wrap_i64]; omega
          have rq1 : IntKind.i64.wrap ((q : Int) + 1 - 1) = (q : Int) := by rw [IntKind.wrap_i64]; omega
          have ec : ((q : Int)).toNat = q := by omega
          have pc : (0 : Int) ≤ (q : Int) := by omega
          have bc : (q : Int) < (sz : Int) := by omega
          clear zq
          go_wp2_with fail
          go_big_region_o
          clear l1 l2 s1 s2 ea ec rq rq1
          generalize (wr.drew.setCells blk (off + (q + 1) * k) cJ).setCells blk (off + q * k) cI = w2 at S5' ⊢
          go_wp2
          go_roundg (q - j)
          case measure => omega
          case rel => exact ⟨q, B0, u :: B2, by first | rfl | go_num, by omega, by omega, Nat.le_refl _, HT', by rw [← HW.out]; exact S5'⟩
        · have hnlt2 : ¬ ((j : Int) < (t : Int)) := by omega
          go_wp2
          refine bodyPost_ret (results_none rfl _ _ _) rfl ?_
          have h1 := HT.out; have h2 := HA.out
          have hB1 : B1 = [] := List.eq_nil_of_length_eq_zero (by omega)
          have S5 := S3.out
          rw [hB1] at h1 S5
          rw [List.nil_append] at h1
          rw [← h1.1] at S5
          exact ⟨rfl, A ++ x :: B, by simpa using S5, FIN.out.1, FIN.out.2⟩
end Go.Proofs.Ytgdmdhhihoifkaa

namespace Go.Proofs.Ytgdmdhhihoifkaa
open Go.Shelf Go.RowKit Go.Lib Go.Sort
variable {P : Program} {α : Type} [Inhabited α]

set_option maxHeartbeats 64000000 in
set_option maxRecDepth 1000000 in
/-- Two sorted runs merged. -/
theorem StCh.symMerge {k : Nat} (L : StChF P k) (enc : α → List Value) (cf : α → α → Int) (hO : SWO (ltOf cf)) (g : Nat) (cb : Array Value) (blk off cap sz : Nat) (d0 : Array α) (w0 : World) (R : RowK enc k w0 blk off d0)
    (eg : ∀ args w, (callFunc g args).run P w = .ok (.enter g args) w) (hcmp : CmpLays P g cb enc k cf blk off sz w0) (hs : d0.size = sz) (hbig : sz < 4611686018427387904) :
    ∀ (N a m b : Nat) (X U V Y : List α) (w : World), b - a ≤ N → a = X.length → m = X.length + U.length → b = X.length + U.length + V.length → 0 < U.length → 0 < V.length → sz = X.length + U.length + V.length + Y.length →
    SortedL (ltOf cf) U → SortedL (ltOf cf) V → SWK enc k w0 blk off (X ++ U ++ V ++ Y).toArray w →
    Calls P 53 #[.slice (some ⟨blk, off, none⟩) sz cap, .int .i64 a, .int .i64 m, .int .i64 b, .func (.func g) #[] cb] w fun e w' => e = .returned (.tuple #[]) ∧
      ∃ W, SWK enc k w0 blk off (X ++ W ++ Y).toArray w' ∧ SortedL (ltOf cf) W ∧ Stab (ltOf cf) (U ++ V) W := by
  intro N
  induction N using Nat.strongRecOn with
  | _ N IH =>
  intro a m b X U V Y w hN ha hm hb hU hV hz sU sV S
  by_cases hU1 : U.length = 1
  · obtain ⟨x, rfl⟩ : ∃ x, U = [x] := List.length_eq_one_iff.1 hU1
    exact StCh.symFirst L enc cf hO g cb blk off cap sz d0 w0 R eg hcmp hs hbig a m b X V Y x w ha (by simpa using hm) (by simpa using hb) hV (by simpa using hz) sV (by simpa using S)
  by_cases hV1 : V.length = 1
  · obtain ⟨x, rfl⟩ : ∃ x, V = [x] := List.length_eq_one_iff.1 hV1
    exact StCh.symLast L enc cf hO g cb blk off cap sz d0 w0 R eg hcmp hs hbig a m b X U Y x w ha hm (by simpa using hb) (by omega) (by simpa using hz) sU (by simpa using S)
  have ih : ∀ n, n < b - a → ∀ (a m b : Nat) (X U V Y : List α) (w : World), b - a ≤ n → a = X.length → m = X.length + U.length → b = X.length + U.length + V.length → 0 < U.length → 0 < V.length → sz = X.length + U.length + V.length + Y.length →
    SortedL (ltOf cf) U → SortedL (ltOf cf) V → SWK enc k w0 blk off (X ++ U ++ V ++ Y).toArray w →
    Calls P 53 #[.slice (some ⟨blk, off, none⟩) sz cap, .int .i64 a, .int .i64 m, .int .i64 b, .func (.func g) #[] cb] w fun e w' => e = .returned (.tuple #[]) ∧
      ∃ W, SWK enc k w0 blk off (X ++ W ++ Y).toArray w' ∧ SortedL (ltOf cf) W ∧ Stab (ltOf cf) (U ++ V) W := fun n hn => IH n (by omega)
  have IHA : Aside _ := ih
  clear ih IH
  have ih := fun n hn => IHA.out n hn
  have mixed := L.mixed; have t3 := L.t3; have a3 := L.a3; have z3 := L.z3; have v3 := L.v3; have t4 := L.t4; have a4 := L.a4; have z4 := L.z4; have v4 := L.v4; have t22 := L.t22; have a22 := L.a22; have z22 := L.z22; have v22 := L.v22; have t25 := L.t25; have a25 := L.a25; have z25 := L.z25; have v25 := L.v25; have aE := L.aE; have zE := L.zE; have t84 := L.t84; have a84 := L.a84; have z84 := L.z84; have v84 := L.v84; have u3 := run_underlying L.t3; have u84 := run_underlying L.t84
  have e72 : ∀ args w, (callFunc 74 args).run P w = .ok (.enter 74 args) w := enters_of L.frot (by kernel_rfl) rfl
  have e50 : ∀ args w, (callFunc 53 args).run P w = .ok (.enter 53 args) w := enters_of L.fsym (by kernel_rfl) rfl
  have HC : Aside _ := hcmp
  have HO : Aside _ := hO
  have HSU : Aside _ := sU
  have HSV : Aside _ := sV
  obtain ⟨l, hl⟩ : ∃ l, l = X ++ U ++ V ++ Y := ⟨_, rfl⟩
  rw [← hl] at S
  have HL : Hid (l = X ++ U ++ V ++ Y) := hl
  have HE : Hid (l.toArray.size = sz ∧ d0.size = sz) := ⟨by rw [hl]; simp; omega, hs⟩
  have HM : Hid (a = X.length ∧ m = X.length + U.length ∧ b = X.length + U.length + V.length ∧ sz = X.length + U.length + V.length + Y.length) := ⟨ha, hm, hb, hz⟩
  have S0 : Aside (SWK enc k w0 blk off l.toArray w) := S
  obtain ⟨mid, hmid⟩ : ∃ mid, mid = (a + b) / 2 := ⟨_, rfl⟩
  have zmid : ((a : Int) + (b : Int)) / 2 = (mid : Int) := by omega
  have b1 : a + 1 < m := by omega
  have b2 : m + 1 < b := by omega
  have b3 : b ≤ sz := by omega
  have b4 : 2 * mid ≤ a + b := by omega
  have b5 : a + b ≤ 2 * mid + 1 := by omega
  have h1 : ((m : Int) - (a : Int) == 1) = false := by rw [beq_eq_false_iff_ne]; omega
  have h2 : ((b : Int) - (m : Int) == 1) = false := by rw [beq_eq_false_iff_ne]; omega
  clear S ha hm hb hU hV hz hs hcmp hl hO sU sV hU1 hV1 hmid hN
  have IH2 : Aside _ := ih
  clear ih IHA
  by_cases hbig' : mid < m
  · go_enter L.fsym, Try.ntmps53
    obtain ⟨s0, hs0⟩ : ∃ s0, s0 = mid + m - b := ⟨_, rfl⟩
    have zs0 : (mid : Int) + (m : Int) - (b : Int) = (s0 : Int) := by omega
    have g1 : a ≤ s0 := by omega
    have g2 : s0 + b ≤ mid + m := by omega
    have g2' : mid + m ≤ s0 + b := by omega
    have g3 : s0 ≤ mid := by omega
    have gm : (mid : Int) < (m : Int) := by omega
    clear hs0
    go_wp2
    go_loopg [20, 21] (mid - s0) (fun gk s20 s21 wr => ∃ s r : Nat, s20 = .int .i64 s ∧ s21 = .int .i64 r ∧ s0 ≤ s ∧ s ≤ r ∧ r ≤ mid ∧ r - s ≤ gk ∧ Aside (SWK enc k w0 blk off l.toArray wr) ∧
      Aside ((s = s0 ∨ ltOf cf l.toArray[mid + m - s]! l.toArray[s - 1]! = false) ∧ (r = mid ∨ ltOf cf l.toArray[mid + m - 1 - r]! l.toArray[r]! = true)))
    case atStart => exact ⟨s0, mid, rfl, rfl, Nat.le_refl _, by omega, Nat.le_refl _, Nat.le_refl _, S0, ⟨.inl rfl, .inl rfl⟩⟩
    case round =>
      clear S0
      obtain ⟨s, r, rfl, rfl, hss, hsr, hrr, hg, S1, I⟩ := hrel
      by_cases hlt : s < r
      · obtain ⟨c, hh⟩ : ∃ c, c = (s + r) / 2 := ⟨_, rfl⟩
        have hz1 : ((s : Int) + (r : Int)) / 2 = (c : Int) := by omega
        have hsc : s ≤ c := by omega
        have hcr : c < r := by omega
        clear hh
        obtain ⟨d, hd⟩ : ∃ d, d = mid + m - 1 - c := ⟨_, rfl⟩
        have hz2 : (mid : Int) + (m : Int) - 1 - (c : Int) = (d : Int) := by omega
        have hdb : d < b := by omega
        have hltz : (s : Int) < (r : Int) := by omega
        have hsz := HE.out.1
        have l1 := S1.out.ld R (by rw [hsz]; exact HE.out.2.symm) P d (by rw [hsz]; omega)
        have l2 := S1.out.ld R (by rw [hsz]; exact HE.out.2.symm) P c (by rw [hsz]; omega)
        obtain ⟨y, hy⟩ : ∃ y, y = l.toArray[d]! := ⟨_, rfl⟩
        obtain ⟨x1, hx1⟩ : ∃ y, y = l.toArray[c]! := ⟨_, rfl⟩
        rw [← hy] at l1
        rw [← hx1] at l2
        have hc := S1.out.cmp HC.out hsz y x1
        have HY : Hid (y = l.toArray[d]! ∧ x1 = l.toArray[c]! ∧ d = mid + m - 1 - c) := ⟨hy, hx1, hd⟩
        clear hsz hy hx1 hd
        have pa1 : (0 : Int) ≤ (d : Int) := by omega
        have ba1 : (d : Int) < (sz : Int) := by omega
        have pa2 : (0 : Int) ≤ (c : Int) := by omega
        have ba2 : (c : Int) < (sz : Int) := by omega
        have rd : IntKind.i64.wrap (d : Int) = (d : Int) := by rw [IntKind.wrap_i64]; omega
        by_cases hlv : cf y x1 < 0
        · have hdv : decide (cf y x1 < 0) = true := decide_eq_true hlv
          go_wp2_with fail
          go_quiet_grown (first | (go_at_fn g; refine Calls.grown_of (hc _ _)))
          have S2 : Aside (SWK enc k w0 blk off l.toArray (grow (wr.drewN nq) osq)) := S1.out.grown nq osq
          clear l1 l2 hc S1 rd
          generalize grow (wr.drewN nq) osq = wv at S2 ⊢
          clear nq osq
          go_wp2
          go_roundg (c - s)
          case measure => omega
          case rel =>
            have I2 : Aside ((s = s0 ∨ ltOf cf l.toArray[mid + m - s]! l.toArray[s - 1]! = false) ∧ (c = mid ∨ ltOf cf l.toArray[mid + m - 1 - c]! l.toArray[c]! = true)) := ⟨I.out.1, .inr (by rw [← HY.out.2.2, ← HY.out.1, ← HY.out.2.1]; exact hdv)⟩
            exact ⟨s, c, rfl, rfl, hss, hsc, by omega, Nat.le_refl _, S2, I2⟩
        -- not less
        · have hdv : decide (cf y x1 < 0) = false := decide_eq_false hlv
          go_wp2_with fail
          go_quiet_grown (first | (go_at_fn g; refine Calls.grown_of (hc _ _)))
          have S2 : Aside (SWK enc k w0 blk off l.toArray (grow (wr.drewN nq) osq)) := S1.out.grown nq osq
          clear l1 l2 hc S1 rd
          generalize grow (wr.drewN nq) osq = wv at S2 ⊢
          clear nq osq
          go_wp2
          go_roundg (r - (c + 1))
          case measure => omega
          case rel =>
            have I2 : Aside ((c + 1 = s0 ∨ ltOf cf l.toArray[mid + m - (c + 1)]! l.toArray[c + 1 - 1]! = false) ∧ (r = mid ∨ ltOf cf l.toArray[mid + m - 1 - r]! l.toArray[r]! = true)) := ⟨.inr (by rw [Nat.add_sub_cancel, show mid + m - (c + 1) = mid + m - 1 - c from by omega, ← HY.out.2.2, ← HY.out.1, ← HY.out.2.1]; exact hdv), I.out.2⟩
            exact ⟨c + 1, r, by go_num, rfl, by omega, by omega, hrr, Nat.le_refl _, S2, I2⟩
      · obtain rfl : r = s := by omega
        obtain ⟨e, he⟩ : ∃ e, e = mid + m - r := ⟨_, rfl⟩
        have ze : (mid : Int) + (m : Int) - (r : Int) = (e : Int) := by omega
        have k1 : a ≤ r := by omega
        have k2 : r ≤ m := by omega
        have k3 : m ≤ e := by omega
        have k4 : e ≤ b := by omega
        have k5 : r ≤ mid := by omega
        have k6 : r + e ≤ mid + m := by omega
        have k7 : mid + m ≤ r + e := by omega
        have hI : (r = a ∨ ltOf cf l.toArray[e]! l.toArray[r - 1]! = false ∨ e = b) ∧ (r = m ∨ ltOf cf l.toArray[e - 1]! l.toArray[r]! = true ∨ e = m) := by
          have h := I.out; rw [← he, show mid + m - 1 - r = e - 1 from by omega] at h
          exact ⟨h.1.elim (fun h => .inr (.inr (by omega))) (fun h => .inr (.inl h)), h.2.elim (fun h => .inr (.inr (by omega))) (fun h => .inr (.inl h))⟩
        clear he I hss hrr hg hlt zs0 g1 g2 g2' g3 gm
        have hnn : ¬ ((r : Int) < (r : Int)) := by omega
        obtain ⟨s, hs_⟩ : ∃ s, s = r := ⟨_, rfl⟩
        subst hs_
        obtain ⟨U1, U2, hU, hU1⟩ : ∃ U1 U2, U = U1 ++ U2 ∧ U1.length = s - a := ⟨U.take (s - a), U.drop (s - a), (List.take_append_drop _ _).symm, by have q := HM.out; simp; omega⟩
        obtain ⟨V1, V2, hV, hV1⟩ : ∃ V1 V2, V = V1 ++ V2 ∧ V1.length = e - m := ⟨V.take (e - m), V.drop (e - m), (List.take_append_drop _ _).symm, by have q := HM.out; simp; omega⟩
        have HQ : Hid (U = U1 ++ U2 ∧ V = V1 ++ V2 ∧ X.length = a ∧ a + U1.length = s ∧ s + U2.length = m ∧ m + V1.length = e ∧ e + V2.length = b ∧ b + Y.length = sz ∧ mid + m = s + e) := by
          have q := HM.out
          have p1 := congrArg List.length hU; have p2 := congrArg List.length hV
          simp at p1 p2
          exact ⟨hU, hV, by omega, by omega, by omega, by omega, by omega, by omega, by omega⟩
        have HU1 : Aside (SortedL (ltOf cf) U1) := by have q := HSU.out; rw [hU] at q; exact SortedL.left (lt := ltOf cf) q
        have HU2 : Aside (SortedL (ltOf cf) U2) := by have q := HSU.out; rw [hU] at q; exact SortedL.right (lt := ltOf cf) q
        have HV1 : Aside (SortedL (ltOf cf) V1) := by have q := HSV.out; rw [hV] at q; exact SortedL.left (lt := ltOf cf) q
        have HV2 : Aside (SortedL (ltOf cf) V2) := by have q := HSV.out; rw [hV] at q; exact SortedL.right (lt := ltOf cf) q
        have HB1 : Aside (∀ u, U2.head? = some u → ∀ v, V1.getLast? = some v → ltOf cf v u = true) := by
          intro u hu v hv
          obtain ⟨V1', rfl⟩ := List.getLast?_eq_some_iff.1 hv
          cases U2 with
          | nil => cases hu
          | cons u' U3 =>
            have hu' : u' = u := by simpa using hu
            subst hu'
            have q := HQ.out
            have h := hI.2
            have h := (h.resolve_left (by simp at q; omega)).resolve_right (by simp at q; omega)
            have e1 : l = (X ++ U1) ++ u' :: (U3 ++ ((V1' ++ [v]) ++ V2) ++ Y) := by rw [HL.out, q.1, q.2.1]; simp
            have e2 : l = (X ++ (U1 ++ u' :: U3) ++ V1') ++ v :: (V2 ++ Y) := by rw [HL.out, q.1, q.2.1]; simp
            have f1 := get_mid (X ++ U1) u' (U3 ++ ((V1' ++ [v]) ++ V2) ++ Y)
            have f2 := get_mid (X ++ (U1 ++ u' :: U3) ++ V1') v (V2 ++ Y)
            rw [← e1, show (X ++ U1).length = s from by simp; omega] at f1
            rw [← e2, show (X ++ (U1 ++ u' :: U3) ++ V1').length = e - 1 from by simp at q ⊢; omega] at f2
            rw [f1, f2] at h
            exact h
        have HB2 : Aside (∀ u, U1.getLast? = some u → ∀ v, V2.head? = some v → ltOf cf v u = false) := by
          intro u hu v hv
          obtain ⟨U1', rfl⟩ := List.getLast?_eq_some_iff.1 hu
          cases V2 with
          | nil => cases hv
          | cons v' V3 =>
            have hv' : v' = v := by simpa using hv
            subst hv'
            have q := HQ.out
            have h := hI.1
            have h := (h.resolve_left (by simp at q; omega)).resolve_right (by simp at q; omega)
            have e1 : l = (X ++ U1') ++ u :: (U2 ++ (V1 ++ v' :: V3) ++ Y) := by rw [HL.out, q.1, q.2.1]; simp
            have e2 : l = (X ++ ((U1' ++ [u]) ++ U2) ++ V1) ++ v' :: (V3 ++ Y) := by rw [HL.out, q.1, q.2.1]; simp
            have f1 := get_mid (X ++ U1') u (U2 ++ (V1 ++ v' :: V3) ++ Y)
            have f2 := get_mid (X ++ ((U1' ++ [u]) ++ U2) ++ V1) v' (V3 ++ Y)
            rw [← e1, show (X ++ U1').length = s - 1 from by simp at q ⊢; omega] at f1
            rw [← e2, show (X ++ ((U1' ++ [u]) ++ U2) ++ V1).length = e from by simp at q ⊢; omega] at f2
            rw [f1, f2] at h
            exact h
        clear hI hU hU1 hV hV1
        by_cases q1 : s < m
        · have _tk : True := trivial
          by_cases q3 : a < s
          · have _tk : True := trivial
            by_cases q6 : e < b
            · have _tk : True := trivial
              by_cases q2 : m < e
              · have _tk : True := trivial
                have c1 : (s : Int) < (m : Int) := by omega
                have c2 : (m : Int) < (e : Int) := by omega
                have c3 : (a : Int) < (s : Int) := by omega
                have c4 : (s : Int) < (mid : Int) := by omega
                have c5 : (mid : Int) < (e : Int) := by omega
                have c6 : (e : Int) < (b : Int) := by omega
                have hr := StCh.rotate L enc g cb blk off cap s m e sz (X ++ U1) U2 V1 (V2 ++ Y) d0 w0 wr R (by have q := HQ.out; simp; omega) (by have q := HQ.out; simp; omega) (by have q := HQ.out; simp; omega) (by have q := HQ.out; omega) (by have q := HQ.out; omega) (by have q := HQ.out; simp; omega) HE.out.2 hbig (by have := S1.out; rw [HL.out, HQ.out.1, HQ.out.2.1] at this; exact StCh.cong this (by simp [List.append_assoc]))
                have HR : Hid (type_of% hr) := hr
                clear hr
                go_wp2_with fail
                refine HR.out.mono ?_
                rintro e1 w1 ⟨rfl, S2⟩
                have SA : Aside (SWK enc k w0 blk off (X ++ (U1 ++ V1) ++ (U2 ++ V2) ++ Y).toArray w1) := StCh.cong S2 (by simp [List.append_assoc])
                clear S2 HR
                have hb := IH2.out (mid - a) (by omega) a s mid X U1 V1 ((U2 ++ V2) ++ Y) w1 (by omega) (by have q := HQ.out; omega) (by have q := HQ.out; omega) (by have q := HQ.out; omega) (by have q := HQ.out; omega) (by have q := HQ.out; omega) (by have q := HQ.out; simp; omega) HU1.out HV1.out (by have := SA.out; exact StCh.cong this (by simp [List.append_assoc]))
                have HB : Hid (type_of% hb) := hb
                clear hb
                go_wp2_with fail
                refine HB.out.mono ?_
                rintro e2 w2 ⟨rfl, LL, S3, q1, q2⟩
                have hLl := (q2.length HO.out).symm
                have SB : Aside (SWK enc k w0 blk off (X ++ LL ++ (U2 ++ V2) ++ Y).toArray w2 ∧ SortedL (ltOf cf) LL ∧ Stab (ltOf cf) (U1 ++ V1) LL ∧ LL.length = U1.length + V1.length) := ⟨StCh.cong S3 (by simp [List.append_assoc]), q1, q2, by rw [hLl]; simp⟩
                clear S3 q1 q2 hLl HB SA
                have hd := IH2.out (b - mid) (by omega) mid e b (X ++ LL) U2 V2 Y w2 (by omega) (by have q := HQ.out; have q2 := SB.out.2.2.2; simp; omega) (by have q := HQ.out; have q2 := SB.out.2.2.2; simp; omega) (by have q := HQ.out; have q2 := SB.out.2.2.2; simp; omega) (by have q := HQ.out; omega) (by have q := HQ.out; omega) (by have q := HQ.out; have q2 := SB.out.2.2.2; simp; omega) HU2.out HV2.out (by have := SB.out.1; exact StCh.cong this (by simp [List.append_assoc]))
                have HD : Hid (type_of% hd) := hd
                clear hd
                go_wp2_with fail
                refine HD.out.mono ?_
                rintro e3 w3 ⟨rfl, RR, S4, q1, q2⟩
                have SC : Aside (SWK enc k w0 blk off (X ++ LL ++ RR ++ Y).toArray w3 ∧ SortedL (ltOf cf) RR ∧ Stab (ltOf cf) (U2 ++ V2) RR) := ⟨StCh.cong S4 (by simp [List.append_assoc]), q1, q2⟩
                clear S4 q1 q2 HD
                go_wp2
                all_goals
                  go_end0
                  have mf := merge_step HO.out U1 U2 V1 V2 LL RR (by rw [← HQ.out.1]; exact HSU.out) (by rw [← HQ.out.2.1]; exact HSV.out) HB1.out HB2.out SB.out.2.1 SC.out.2.1 SB.out.2.2.1 SC.out.2.2
                  exact ⟨rfl, LL ++ RR, by have := SC.out.1; exact StCh.cong this (by simp [List.append_assoc]), mf.1, by rw [HQ.out.1, HQ.out.2.1]; exact mf.2⟩
              · have _tk : True := trivial
                have c1 : (s : Int) < (m : Int) := by omega
                have c2 : ¬ ((m : Int) < (e : Int)) := by omega
                have c3 : (a : Int) < (s : Int) := by omega
                have c4 : ¬ ((s : Int) < (mid : Int)) := by omega
                have c5 : (mid : Int) < (e : Int) := by omega
                have c6 : (e : Int) < (b : Int) := by omega
                have SA : Aside (SWK enc k w0 blk off (X ++ (U1 ++ V1) ++ (U2 ++ V2) ++ Y).toArray wr) := by
                  have hz : V1 = [] := List.eq_nil_of_length_eq_zero (by have q := HQ.out; omega)
                  have := S1.out; rw [HL.out, HQ.out.1, HQ.out.2.1, hz] at this; rw [hz]; exact StCh.cong this (by simp [List.append_assoc])
                obtain ⟨LL, hLL⟩ : ∃ LL, LL = U1 ++ V1 := ⟨_, rfl⟩
                have SB : Aside (SWK enc k w0 blk off (X ++ LL ++ (U2 ++ V2) ++ Y).toArray wr ∧ SortedL (ltOf cf) LL ∧ Stab (ltOf cf) (U1 ++ V1) LL ∧ LL.length = U1.length + V1.length) := by
                  rw [hLL]
                  have hz : V1 = [] := List.eq_nil_of_length_eq_zero (by have q := HQ.out; omega)
                  refine ⟨SA.out, ?_, Stab.refl _, by simp⟩
                  rw [hz]; simpa using HU1.out
                clear hLL
                have hd := IH2.out (b - mid) (by omega) mid e b (X ++ LL) U2 V2 Y wr (by omega) (by have q := HQ.out; have q2 := SB.out.2.2.2; simp; omega) (by have q := HQ.out; have q2 := SB.out.2.2.2; simp; omega) (by have q := HQ.out; have q2 := SB.out.2.2.2; simp; omega) (by have q := HQ.out; omega) (by have q := HQ.out; omega) (by have q := HQ.out; have q2 := SB.out.2.2.2; simp; omega) HU2.out HV2.out (by have := SB.out.1; exact StCh.cong this (by simp [List.append_assoc]))
                have HD : Hid (type_of% hd) := hd
                clear hd
                go_wp2_with fail
                refine HD.out.mono ?_
                rintro e3 w3 ⟨rfl, RR, S4, q1, q2⟩
                have SC : Aside (SWK enc k w0 blk off (X ++ LL ++ RR ++ Y).toArray w3 ∧ SortedL (ltOf cf) RR ∧ Stab (ltOf cf) (U2 ++ V2) RR) := ⟨StCh.cong S4 (by simp [List.append_assoc]), q1, q2⟩
                clear S4 q1 q2 HD
                go_wp2
                all_goals
                  go_end0
                  have mf := merge_step HO.out U1 U2 V1 V2 LL RR (by rw [← HQ.out.1]; exact HSU.out) (by rw [← HQ.out.2.1]; exact HSV.out) HB1.out HB2.out SB.out.2.1 SC.out.2.1 SB.out.2.2.1 SC.out.2.2
                  exact ⟨rfl, LL ++ RR, by have := SC.out.1; exact StCh.cong this (by simp [List.append_assoc]), mf.1, by rw [HQ.out.1, HQ.out.2.1]; exact mf.2⟩
            · have _tk : True := trivial
              by_cases q2 : m < e
              · have _tk : True := trivial
                have c1 : (s : Int) < (m : Int) := by omega
                have c2 : (m : Int) < (e : Int) := by omega
                have c3 : (a : Int) < (s : Int) := by omega
                have c4 : (s : Int) < (mid : Int) := by omega
                have c5 : (mid : Int) < (e : Int) := by omega
                have c6 : ¬ ((e : Int) < (b : Int)) := by omega
                have hr := StCh.rotate L enc g cb blk off cap s m e sz (X ++ U1) U2 V1 (V2 ++ Y) d0 w0 wr R (by have q := HQ.out; simp; omega) (by have q := HQ.out; simp; omega) (by have q := HQ.out; simp; omega) (by have q := HQ.out; omega) (by have q := HQ.out; omega) (by have q := HQ.out; simp; omega) HE.out.2 hbig (by have := S1.out; rw [HL.out, HQ.out.1, HQ.out.2.1] at this; exact StCh.cong this (by simp [List.append_assoc]))
                have HR : Hid (type_of% hr) := hr
                clear hr
                go_wp2_with fail
                refine HR.out.mono ?_
                rintro e1 w1 ⟨rfl, S2⟩
                have SA : Aside (SWK enc k w0 blk off (X ++ (U1 ++ V1) ++ (U2 ++ V2) ++ Y).toArray w1) := StCh.cong S2 (by simp [List.append_assoc])
                clear S2 HR
                have hb := IH2.out (mid - a) (by omega) a s mid X U1 V1 ((U2 ++ V2) ++ Y) w1 (by omega) (by have q := HQ.out; omega) (by have q := HQ.out; omega) (by have q := HQ.out; omega) (by have q := HQ.out; omega) (by have q := HQ.out; omega) (by have q := HQ.out; simp; omega) HU1.out HV1.out (by have := SA.out; exact StCh.cong this (by simp [List.append_assoc]))
                have HB : Hid (type_of% hb) := hb
                clear hb
                go_wp2_with fail
                refine HB.out.mono ?_
                rintro e2 w2 ⟨rfl, LL, S3, q1, q2⟩
                have hLl := (q2.length HO.out).symm
                have SB : Aside (SWK enc k w0 blk off (X ++ LL ++ (U2 ++ V2) ++ Y).toArray w2 ∧ SortedL (ltOf cf) LL ∧ Stab (ltOf cf) (U1 ++ V1) LL ∧ LL.length = U1.length + V1.length) := ⟨StCh.cong S3 (by simp [List.append_assoc]), q1, q2, by rw [hLl]; simp⟩
                clear S3 q1 q2 hLl HB SA
                obtain ⟨RR, hRR⟩ : ∃ RR, RR = U2 ++ V2 := ⟨_, rfl⟩
                have SC : Aside (SWK enc k w0 blk off (X ++ LL ++ RR ++ Y).toArray w2 ∧ SortedL (ltOf cf) RR ∧ Stab (ltOf cf) (U2 ++ V2) RR) := by
                  rw [hRR]
                  have hz : V2 = [] := List.eq_nil_of_length_eq_zero (by have q := HQ.out; omega)
                  refine ⟨SB.out.1, ?_, Stab.refl _⟩
                  rw [hz]; simpa using HU2.out
                clear hRR
                go_wp2
                all_goals
                  go_end0
                  have mf := merge_step HO.out U1 U2 V1 V2 LL RR (by rw [← HQ.out.1]; exact HSU.out) (by rw [← HQ.out.2.1]; exact HSV.out) HB1.out HB2.out SB.out.2.1 SC.out.2.1 SB.out.2.2.1 SC.out.2.2
                  exact ⟨rfl, LL ++ RR, by have := SC.out.1; exact StCh.cong this (by simp [List.append_assoc]), mf.1, by rw [HQ.out.1, HQ.out.2.1]; exact mf.2⟩
              · have _tk : True := trivial
                have c1 : (s : Int) < (m : Int) := by omega
                have c2 : ¬ ((m : Int) < (e : Int)) := by omega
                have c3 : (a : Int) < (s : Int) := by omega
                have c4 : ¬ ((s : Int) < (mid : Int)) := by omega
                have c5 : (mid : Int) < (e : Int) := by omega
                have c6 : ¬ ((e : Int) < (b : Int)) := by omega
                have SA : Aside (SWK enc k w0 blk off (X ++ (U1 ++ V1) ++ (U2 ++ V2) ++ Y).toArray wr) := by
                  have hz : V1 = [] := List.eq_nil_of_length_eq_zero (by have q := HQ.out; omega)
                  have := S1.out; rw [HL.out, HQ.out.1, HQ.out.2.1, hz] at this; rw [hz]; exact StCh.cong this (by simp [List.append_assoc])
                obtain ⟨LL, hLL⟩ : ∃ LL, LL = U1 ++ V1 := ⟨_, rfl⟩
                have SB : Aside (SWK enc k w0 blk off (X ++ LL ++ (U2 ++ V2) ++ Y).toArray wr ∧ SortedL (ltOf cf) LL ∧ Stab (ltOf cf) (U1 ++ V1) LL ∧ LL.length = U1.length + V1.length) := by
                  rw [hLL]
                  have hz : V1 = [] := List.eq_nil_of_length_eq_zero (by have q := HQ.out; omega)
                  refine ⟨SA.out, ?_, Stab.refl _, by simp⟩
                  rw [hz]; simpa using HU1.out
                clear hLL
                obtain ⟨RR, hRR⟩ : ∃ RR, RR = U2 ++ V2 := ⟨_, rfl⟩
                have SC : Aside (SWK enc k w0 blk off (X ++ LL ++ RR ++ Y).toArray wr ∧ SortedL (ltOf cf) RR ∧ Stab (ltOf cf) (U2 ++ V2) RR) := by
                  rw [hRR]
                  have hz : V2 = [] := List.eq_nil_of_length_eq_zero (by have q := HQ.out; omega)
                  refine ⟨SB.out.1, ?_, Stab.refl _⟩
                  rw [hz]; simpa using HU2.out
                clear hRR
                go_wp2
                all_goals
                  go_end0
                  have mf := merge_step HO.out U1 U2 V1 V2 LL RR (by rw [← HQ.out.1]; exact HSU.out) (by rw [← HQ.out.2.1]; exact HSV.out) HB1.out HB2.out SB.out.2.1 SC.out.2.1 SB.out.2.2.1 SC.out.2.2
                  exact ⟨rfl, LL ++ RR, by have := SC.out.1; exact StCh.cong this (by simp [List.append_assoc]), mf.1, by rw [HQ.out.1, HQ.out.2.1]; exact mf.2⟩
          · have _tk : True := trivial
            by_cases q6 : e < b
            · have _tk : True := trivial
              by_cases q2 : m < e
              · have _tk : True := trivial
                have c1 : (s : Int) < (m : Int) := by omega
                have c2 : (m : Int) < (e : Int) := by omega
                have c3 : ¬ ((a : Int) < (s : Int)) := by omega
                have c4 : (s : Int) < (mid : Int) := by omega
                have c5 : (mid : Int) < (e : Int) := by omega
                have c6 : (e : Int) < (b : Int) := by omega
                have hr := StCh.rotate L enc g cb blk off cap s m e sz (X ++ U1) U2 V1 (V2 ++ Y) d0 w0 wr R (by have q := HQ.out; simp; omega) (by have q := HQ.out; simp; omega) (by have q := HQ.out; simp; omega) (by have q := HQ.out; omega) (by have q := HQ.out; omega) (by have q := HQ.out; simp; omega) HE.out.2 hbig (by have := S1.out; rw [HL.out, HQ.out.1, HQ.out.2.1] at this; exact StCh.cong this (by simp [List.append_assoc]))
                have HR : Hid (type_of% hr) := hr
                clear hr
                go_wp2_with fail
                refine HR.out.mono ?_
                rintro e1 w1 ⟨rfl, S2⟩
                have SA : Aside (SWK enc k w0 blk off (X ++ (U1 ++ V1) ++ (U2 ++ V2) ++ Y).toArray w1) := StCh.cong S2 (by simp [List.append_assoc])
                clear S2 HR
                obtain ⟨LL, hLL⟩ : ∃ LL, LL = U1 ++ V1 := ⟨_, rfl⟩
                have SB : Aside (SWK enc k w0 blk off (X ++ LL ++ (U2 ++ V2) ++ Y).toArray w1 ∧ SortedL (ltOf cf) LL ∧ Stab (ltOf cf) (U1 ++ V1) LL ∧ LL.length = U1.length + V1.length) := by
                  rw [hLL]
                  have hz : U1 = [] := List.eq_nil_of_length_eq_zero (by have q := HQ.out; omega)
                  refine ⟨SA.out, ?_, Stab.refl _, by simp⟩
                  rw [hz]; simpa using HV1.out
                clear hLL
                have hd := IH2.out (b - mid) (by omega) mid e b (X ++ LL) U2 V2 Y w1 (by omega) (by have q := HQ.out; have q2 := SB.out.2.2.2; simp; omega) (by have q := HQ.out; have q2 := SB.out.2.2.2; simp; omega) (by have q := HQ.out; have q2 := SB.out.2.2.2; simp; omega) (by have q := HQ.out; omega) (by have q := HQ.out; omega) (by have q := HQ.out; have q2 := SB.out.2.2.2; simp; omega) HU2.out HV2.out (by have := SB.out.1; exact StCh.cong this (by simp [List.append_assoc]))
                have HD : Hid (type_of% hd) := hd
                clear hd
                go_wp2_with fail
                refine HD.out.mono ?_
                rintro e3 w3 ⟨rfl, RR, S4, q1, q2⟩
                have SC : Aside (SWK enc k w0 blk off (X ++ LL ++ RR ++ Y).toArray w3 ∧ SortedL (ltOf cf) RR ∧ Stab (ltOf cf) (U2 ++ V2) RR) := ⟨StCh.cong S4 (by simp [List.append_assoc]), q1, q2⟩
                clear S4 q1 q2 HD
                go_wp2
                all_goals
                  go_end0
                  have mf := merge_step HO.out U1 U2 V1 V2 LL RR (by rw [← HQ.out.1]; exact HSU.out) (by rw [← HQ.out.2.1]; exact HSV.out) HB1.out HB2.out SB.out.2.1 SC.out.2.1 SB.out.2.2.1 SC.out.2.2
                  exact ⟨rfl, LL ++ RR, by have := SC.out.1; exact StCh.cong this (by simp [List.append_assoc]), mf.1, by rw [HQ.out.1, HQ.out.2.1]; exact mf.2⟩
              · have _tk : True := trivial
                have c1 : (s : Int) < (m : Int) := by omega
                have c2 : ¬ ((m : Int) < (e : Int)) := by omega
                have c3 : ¬ ((a : Int) < (s : Int)) := by omega
                have c4 : ¬ ((s : Int) < (mid : Int)) := by omega
                have c5 : (mid : Int) < (e : Int) := by omega
                have c6 : (e : Int) < (b : Int) := by omega
                have SA : Aside (SWK enc k w0 blk off (X ++ (U1 ++ V1) ++ (U2 ++ V2) ++ Y).toArray wr) := by
                  have hz : V1 = [] := List.eq_nil_of_length_eq_zero (by have q := HQ.out; omega)
                  have := S1.out; rw [HL.out, HQ.out.1, HQ.out.2.1, hz] at this; rw [hz]; exact StCh.cong this (by simp [List.append_assoc])
                obtain ⟨LL, hLL⟩ : ∃ LL, LL = U1 ++ V1 := ⟨_, rfl⟩
                have SB : Aside (SWK enc k w0 blk off (X ++ LL ++ (U2 ++ V2) ++ Y).toArray wr ∧ SortedL (ltOf cf) LL ∧ Stab (ltOf cf) (U1 ++ V1) LL ∧ LL.length = U1.length + V1.length) := by
                  rw [hLL]
                  have hz : U1 = [] := List.eq_nil_of_length_eq_zero (by have q := HQ.out; omega)
                  refine ⟨SA.out, ?_, Stab.refl _, by simp⟩
                  rw [hz]; simpa using HV1.out
                clear hLL
                have hd := IH2.out (b - mid) (by omega) mid e b (X ++ LL) U2 V2 Y wr (by omega) (by have q := HQ.out; have q2 := SB.out.2.2.2; simp; omega) (by have q := HQ.out; have q2 := SB.out.2.2.2; simp; omega) (by have q := HQ.out; have q2 := SB.out.2.2.2; simp; omega) (by have q := HQ.out; omega) (by have q := HQ.out; omega) (by have q := HQ.out; have q2 := SB.out.2.2.2; simp; omega) HU2.out HV2.out (by have := SB.out.1; exact StCh.cong this (by simp [List.append_assoc]))
                have HD : Hid (type_of% hd) := hd
                clear hd
                go_wp2_with fail
                refine HD.out.mono ?_
                rintro e3 w3 ⟨rfl, RR, S4, q1, q2⟩
                have SC : Aside (SWK enc k w0 blk off (X ++ LL ++ RR ++ Y).toArray w3 ∧ SortedL (ltOf cf) RR ∧ Stab (ltOf cf) (U2 ++ V2) RR) := ⟨StCh.cong S4 (by simp [List.append_assoc]), q1, q2⟩
                clear S4 q1 q2 HD
                go_wp2
                all_goals
                  go_end0
                  have mf := merge_step HO.out U1 U2 V1 V2 LL RR (by rw [← HQ.out.1]; exact HSU.out) (by rw [← HQ.out.2.1]; exact HSV.out) HB1.out HB2.out SB.out.2.1 SC.out.2.1 SB.out.2.2.1 SC.out.2.2
                  exact ⟨rfl, LL ++ RR, by have := SC.out.1; exact StCh.cong this (by simp [List.append_assoc]), mf.1, by rw [HQ.out.1, HQ.out.2.1]; exact mf.2⟩
            · have _tk : True := trivial
              by_cases q2 : m < e
              · have _tk : True := trivial
                have c1 : (s : Int) < (m : Int) := by omega
                have c2 : (m : Int) < (e : Int) := by omega
                have c3 : ¬ ((a : Int) < (s : Int)) := by omega
                have c4 : (s : Int) < (mid : Int) := by omega
                have c5 : (mid : Int) < (e : Int) := by omega
                have c6 : ¬ ((e : Int) < (b : Int)) := by omega
                have hr := StCh.rotate L enc g cb blk off cap s m e sz (X ++ U1) U2 V1 (V2 ++ Y) d0 w0 wr R (by have q := HQ.out; simp; omega) (by have q := HQ.out; simp; omega) (by have q := HQ.out; simp; omega) (by have q := HQ.out; omega) (by have q := HQ.out; omega) (by have q := HQ.out; simp; omega) HE.out.2 hbig (by have := S1.out; rw [HL.out, HQ.out.1, HQ.out.2.1] at this; exact StCh.cong this (by simp [List.append_assoc]))
                have HR : Hid (type_of% hr) := hr
                clear hr
                go_wp2_with fail
                refine HR.out.mono ?_
                rintro e1 w1 ⟨rfl, S2⟩
                have SA : Aside (SWK enc k w0 blk off (X ++ (U1 ++ V1) ++ (U2 ++ V2) ++ Y).toArray w1) := StCh.cong S2 (by simp [List.append_assoc])
                clear S2 HR
                obtain ⟨LL, hLL⟩ : ∃ LL, LL = U1 ++ V1 := ⟨_, rfl⟩
                have SB : Aside (SWK enc k w0 blk off (X ++ LL ++ (U2 ++ V2) ++ Y).toArray w1 ∧ SortedL (ltOf cf) LL ∧ Stab (ltOf cf) (U1 ++ V1) LL ∧ LL.length = U1.length + V1.length) := by
                  rw [hLL]
                  have hz : U1 = [] := List.eq_nil_of_length_eq_zero (by have q := HQ.out; omega)
                  refine ⟨SA.out, ?_, Stab.refl _, by simp⟩
                  rw [hz]; simpa using HV1.out
                clear hLL
                obtain ⟨RR, hRR⟩ : ∃ RR, RR = U2 ++ V2 := ⟨_, rfl⟩
                have SC : Aside (SWK enc k w0 blk off (X ++ LL ++ RR ++ Y).toArray w1 ∧ SortedL (ltOf cf) RR ∧ Stab (ltOf cf) (U2 ++ V2) RR) := by
                  rw [hRR]
                  have hz : V2 = [] := List.eq_nil_of_length_eq_zero (by have q := HQ.out; omega)
                  refine ⟨SB.out.1, ?_, Stab.refl _⟩
                  rw [hz]; simpa using HU2.out
                clear hRR
                go_wp2
                all_goals
                  go_end0
                  have mf := merge_step HO.out U1 U2 V1 V2 LL RR (by rw [← HQ.out.1]; exact HSU.out) (by rw [← HQ.out.2.1]; exact HSV.out) HB1.out HB2.out SB.out.2.1 SC.out.2.1 SB.out.2.2.1 SC.out.2.2
                  exact ⟨rfl, LL ++ RR, by have := SC.out.1; exact StCh.cong this (by simp [List.append_assoc]), mf.1, by rw [HQ.out.1, HQ.out.2.1]; exact mf.2⟩
              · have _tk : True := trivial
                have c1 : (s : Int) < (m : Int) := by omega
                have c2 : ¬ ((m : Int) < (e : Int)) := by omega
                have c3 : ¬ ((a : Int) < (s : Int)) := by omega
                have c4 : ¬ ((s : Int) < (mid : Int)) := by omega
                have c5 : (mid : Int) < (e : Int) := by omega
                have c6 : ¬ ((e : Int) < (b : Int)) := by omega
                have SA : Aside (SWK enc k w0 blk off (X ++ (U1 ++ V1) ++ (U2 ++ V2) ++ Y).toArray wr) := by
                  have hz : V1 = [] := List.eq_nil_of_length_eq_zero (by have q := HQ.out; omega)
                  have := S1.out; rw [HL.out, HQ.out.1, HQ.out.2.1, hz] at this; rw [hz]; exact StCh.cong this (by simp [List.append_assoc])
                obtain ⟨LL, hLL⟩ : ∃ LL, LL = U1 ++ V1 := ⟨_, rfl⟩
                have SB : Aside (SWK enc k w0 blk off (X ++ LL ++ (U2 ++ V2) ++ Y).toArray wr ∧ SortedL (ltOf cf) LL ∧ Stab (ltOf cf) (U1 ++ V1) LL ∧ LL.length = U1.length + V1.length) := by
                  rw [hLL]
                  have hz : U1 = [] := List.eq_nil_of_length_eq_zero (by have q := HQ.out; omega)
                  refine ⟨SA.out, ?_, Stab.refl _, by simp⟩
                  rw [hz]; simpa using HV1.out
                clear hLL
                obtain ⟨RR, hRR⟩ : ∃ RR, RR = U2 ++ V2 := ⟨_, rfl⟩
                have SC : Aside (SWK enc k w0 blk off (X ++ LL ++ RR ++ Y).toArray wr ∧ SortedL (ltOf cf) RR ∧ Stab (ltOf cf) (U2 ++ V2) RR) := by
                  rw [hRR]
                  have hz : V2 = [] := List.eq_nil_of_length_eq_zero (by have q := HQ.out; omega)
                  refine ⟨SB.out.1, ?_, Stab.refl _⟩
                  rw [hz]; simpa using HU2.out
                clear hRR
                go_wp2
                all_goals
                  go_end0
                  have mf := merge_step HO.out U1 U2 V1 V2 LL RR (by rw [← HQ.out.1]; exact HSU.out) (by rw [← HQ.out.2.1]; exact HSV.out) HB1.out HB2.out SB.out.2.1 SC.out.2.1 SB.out.2.2.1 SC.out.2.2
                  exact ⟨rfl, LL ++ RR, by have := SC.out.1; exact StCh.cong this (by simp [List.append_assoc]), mf.1, by rw [HQ.out.1, HQ.out.2.1]; exact mf.2⟩
        · have _tk : True := trivial
          by_cases q3 : a < s
          · have _tk : True := trivial
            by_cases q6 : e < b
            · have _tk : True := trivial
              by_cases q2 : m < e
              · have _tk : True := trivial
                have c1 : ¬ ((s : Int) < (m : Int)) := by omega
                have c2 : (m : Int) < (e : Int) := by omega
                have c3 : (a : Int) < (s : Int) := by omega
                have c4 : (s : Int) < (mid : Int) := by omega
                have c5 : ¬ ((mid : Int) < (e : Int)) := by omega
                have c6 : (e : Int) < (b : Int) := by omega
                have SA : Aside (SWK enc k w0 blk off (X ++ (U1 ++ V1) ++ (U2 ++ V2) ++ Y).toArray wr) := by
                  have hz : U2 = [] := List.eq_nil_of_length_eq_zero (by have q := HQ.out; omega)
                  have := S1.out; rw [HL.out, HQ.out.1, HQ.out.2.1, hz] at this; rw [hz]; exact StCh.cong this (by simp [List.append_assoc])
                have hb := IH2.out (mid - a) (by omega) a s mid X U1 V1 ((U2 ++ V2) ++ Y) wr (by omega) (by have q := HQ.out; omega) (by have q := HQ.out; omega) (by have q := HQ.out; omega) (by have q := HQ.out; omega) (by have q := HQ.out; omega) (by have q := HQ.out; simp; omega) HU1.out HV1.out (by have := SA.out; exact StCh.cong this (by simp [List.append_assoc]))
                have HB : Hid (type_of% hb) := hb
                clear hb
                go_wp2_with fail
                refine HB.out.mono ?_
                rintro e2 w2 ⟨rfl, LL, S3, q1, q2⟩
                have hLl := (q2.length HO.out).symm
                have SB : Aside (SWK enc k w0 blk off (X ++ LL ++ (U2 ++ V2) ++ Y).toArray w2 ∧ SortedL (ltOf cf) LL ∧ Stab (ltOf cf) (U1 ++ V1) LL ∧ LL.length = U1.length + V1.length) := ⟨StCh.cong S3 (by simp [List.append_assoc]), q1, q2, by rw [hLl]; simp⟩
                clear S3 q1 q2 hLl HB SA
                obtain ⟨RR, hRR⟩ : ∃ RR, RR = U2 ++ V2 := ⟨_, rfl⟩
                have SC : Aside (SWK enc k w0 blk off (X ++ LL ++ RR ++ Y).toArray w2 ∧ SortedL (ltOf cf) RR ∧ Stab (ltOf cf) (U2 ++ V2) RR) := by
                  rw [hRR]
                  have hz : U2 = [] := List.eq_nil_of_length_eq_zero (by have q := HQ.out; omega)
                  refine ⟨SB.out.1, ?_, Stab.refl _⟩
                  rw [hz]; simpa using HV2.out
                clear hRR
                go_wp2
                all_goals
                  go_end0
                  have mf := merge_step HO.out U1 U2 V1 V2 LL RR (by rw [← HQ.out.1]; exact HSU.out) (by rw [← HQ.out.2.1]; exact HSV.out) HB1.out HB2.out SB.out.2.1 SC.out.2.1 SB.out.2.2.1 SC.out.2.2
                  exact ⟨rfl, LL ++ RR, by have := SC.out.1; exact StCh.cong this (by simp [List.append_assoc]), mf.1, by rw [HQ.out.1, HQ.out.2.1]; exact mf.2⟩
              · have _tk : True := trivial
                have c1 : ¬ ((s : Int) < (m : Int)) := by omega
                have c2 : ¬ ((m : Int) < (e : Int)) := by omega
                have c3 : (a : Int) < (s : Int) := by omega
                have c4 : ¬ ((s : Int) < (mid : Int)) := by omega
                have c5 : ¬ ((mid : Int) < (e : Int)) := by omega
                have c6 : (e : Int) < (b : Int) := by omega
                have SA : Aside (SWK enc k w0 blk off (X ++ (U1 ++ V1) ++ (U2 ++ V2) ++ Y).toArray wr) := by
                  have hz : U2 = [] := List.eq_nil_of_length_eq_zero (by have q := HQ.out; omega)
                  have := S1.out; rw [HL.out, HQ.out.1, HQ.out.2.1, hz] at this; rw [hz]; exact StCh.cong this (by simp [List.append_assoc])
                obtain ⟨LL, hLL⟩ : ∃ LL, LL = U1 ++ V1 := ⟨_, rfl⟩
                have SB : Aside (SWK enc k w0 blk off (X ++ LL ++ (U2 ++ V2) ++ Y).toArray wr ∧ SortedL (ltOf cf) LL ∧ Stab (ltOf cf) (U1 ++ V1) LL ∧ LL.length = U1.length + V1.length) := by
                  rw [hLL]
                  have hz : V1 = [] := List.eq_nil_of_length_eq_zero (by have q := HQ.out; omega)
                  refine ⟨SA.out, ?_, Stab.refl _, by simp⟩
                  rw [hz]; simpa using HU1.out
                clear hLL
                obtain ⟨RR, hRR⟩ : ∃ RR, RR = U2 ++ V2 := ⟨_, rfl⟩
                have SC : Aside (SWK enc k w0 blk off (X ++ LL ++ RR ++ Y).toArray wr ∧ SortedL (ltOf cf) RR ∧ Stab (ltOf cf) (U2 ++ V2) RR) := by
                  rw [hRR]
                  have hz : U2 = [] := List.eq_nil_of_length_eq_zero (by have q := HQ.out; omega)
                  refine ⟨SB.out.1, ?_, Stab.refl _⟩
                  rw [hz]; simpa using HV2.out
                clear hRR
                go_wp2
                all_goals
                  go_end0
                  have mf := merge_step HO.out U1 U2 V1 V2 LL RR (by rw [← HQ.out.1]; exact HSU.out) (by rw [← HQ.out.2.1]; exact HSV.out) HB1.out HB2.out SB.out.2.1 SC.out.2.1 SB.out.2.2.1 SC.out.2.2
                  exact ⟨rfl, LL ++ RR, by have := SC.out.1; exact StCh.cong this (by simp [List.append_assoc]), mf.1, by rw [HQ.out.1, HQ.out.2.1]; exact mf.2⟩
            · have _tk : True := trivial
              by_cases q2 : m < e
              · have _tk : True := trivial
                have c1 : ¬ ((s : Int) < (m : Int)) := by omega
                have c2 : (m : Int) < (e : Int) := by omega
                have c3 : (a : Int) < (s : Int) := by omega
                have c4 : (s : Int) < (mid : Int) := by omega
                have c5 : ¬ ((mid : Int) < (e : Int)) := by omega
                have c6 : ¬ ((e : Int) < (b : Int)) := by omega
                have SA : Aside (SWK enc k w0 blk off (X ++ (U1 ++ V1) ++ (U2 ++ V2) ++ Y).toArray wr) := by
                  have hz : U2 = [] := List.eq_nil_of_length_eq_zero (by have q := HQ.out; omega)
                  have := S1.out; rw [HL.out, HQ.out.1, HQ.out.2.1, hz] at this; rw [hz]; exact StCh.cong this (by simp [List.append_assoc])
                have hb := IH2.out (mid - a) (by omega) a s mid X U1 V1 ((U2 ++ V2) ++ Y) wr (by omega) (by have q := HQ.out; omega) (by have q := HQ.out; omega) (by have q := HQ.out; omega) (by have q := HQ.out; omega) (by have q := HQ.out; omega) (by have q := HQ.out; simp; omega) HU1.out HV1.out (by have := SA.out; exact StCh.cong this (by simp [List.append_assoc]))
                have HB : Hid (type_of% hb) := hb
                clear hb
                go_wp2_with fail
                refine HB.out.mono ?_
                rintro e2 w2 ⟨rfl, LL, S3, q1, q2⟩
                have hLl := (q2.length HO.out).symm
                have SB : Aside (SWK enc k w0 blk off (X ++ LL ++ (U2 ++ V2) ++ Y).toArray w2 ∧ SortedL (ltOf cf) LL ∧ Stab (ltOf cf) (U1 ++ V1) LL ∧ LL.length = U1.length + V1.length) := ⟨StCh.cong S3 (by simp [List.append_assoc]), q1, q2, by rw [hLl]; simp⟩
                clear S3 q1 q2 hLl HB SA
                obtain ⟨RR, hRR⟩ : ∃ RR, RR = U2 ++ V2 := ⟨_, rfl⟩
                have SC : Aside (SWK enc k w0 blk off (X ++ LL ++ RR ++ Y).toArray w2 ∧ SortedL (ltOf cf) RR ∧ Stab (ltOf cf) (U2 ++ V2) RR) := by
                  rw [hRR]
                  have hz : U2 = [] := List.eq_nil_of_length_eq_zero (by have q := HQ.out; omega)
                  refine ⟨SB.out.1, ?_, Stab.refl _⟩
                  rw [hz]; simpa using HV2.out
                clear hRR
                go_wp2
                all_goals
                  go_end0
                  have mf := merge_step HO.out U1 U2 V1 V2 LL RR (by rw [← HQ.out.1]; exact HSU.out) (by rw [← HQ.out.2.1]; exact HSV.out) HB1.out HB2.out SB.out.2.1 SC.out.2.1 SB.out.2.2.1 SC.out.2.2
                  exact ⟨rfl, LL ++ RR, by have := SC.out.1; exact StCh.cong this (by simp [List.append_assoc]), mf.1, by rw [HQ.out.1, HQ.out.2.1]; exact mf.2⟩
              · have _tk : True := trivial
                have c1 : ¬ ((s : Int) < (m : Int)) := by omega
                have c2 : ¬ ((m : Int) < (e : Int)) := by omega
                have c3 : (a : Int) < (s : Int) := by omega
                have c4 : ¬ ((s : Int) < (mid : Int)) := by omega
                have c5 : ¬ ((mid : Int) < (e : Int)) := by omega
                have c6 : ¬ ((e : Int) < (b : Int)) := by omega
                have SA : Aside (SWK enc k w0 blk off (X ++ (U1 ++ V1) ++ (U2 ++ V2) ++ Y).toArray wr) := by
                  have hz : U2 = [] := List.eq_nil_of_length_eq_zero (by have q := HQ.out; omega)
                  have := S1.out; rw [HL.out, HQ.out.1, HQ.out.2.1, hz] at this; rw [hz]; exact StCh.cong this (by simp [List.append_assoc])
                obtain ⟨LL, hLL⟩ : ∃ LL, LL = U1 ++ V1 := ⟨_, rfl⟩
                have SB : Aside (SWK enc k w0 blk off (X ++ LL ++ (U2 ++ V2) ++ Y).toArray wr ∧ SortedL (ltOf cf) LL ∧ Stab (ltOf cf) (U1 ++ V1) LL ∧ LL.length = U1.length + V1.length) := by
                  rw [hLL]
                  have hz : V1 = [] := List.eq_nil_of_length_eq_zero (by have q := HQ.out; omega)
                  refine ⟨SA.out, ?_, Stab.refl _, by simp⟩
                  rw [hz]; simpa using HU1.out
                clear hLL
                obtain ⟨RR, hRR⟩ : ∃ RR, RR = U2 ++ V2 := ⟨_, rfl⟩
                have SC : Aside (SWK enc k w0 blk off (X ++ LL ++ RR ++ Y).toArray wr ∧ SortedL (ltOf cf) RR ∧ Stab (ltOf cf) (U2 ++ V2) RR) := by
                  rw [hRR]
                  have hz : U2 = [] := List.eq_nil_of_length_eq_zero (by have q := HQ.out; omega)
                  refine ⟨SB.out.1, ?_, Stab.refl _⟩
                  rw [hz]; simpa using HV2.out
                clear hRR
                go_wp2
                all_goals
                  go_end0
                  have mf := merge_step HO.out U1 U2 V1 V2 LL RR (by rw [← HQ.out.1]; exact HSU.out) (by rw [← HQ.out.2.1]; exact HSV.out) HB1.out HB2.out SB.out.2.1 SC.out.2.1 SB.out.2.2.1 SC.out.2.2
                  exact ⟨rfl, LL ++ RR, by have := SC.out.1; exact StCh.cong this (by simp [List.append_assoc]), mf.1, by rw [HQ.out.1, HQ.out.2.1]; exact mf.2⟩
          · have _tk : True := trivial
            by_cases q6 : e < b
            · have _tk : True := trivial
              by_cases q2 : m < e
              · have _tk : True := trivial
                have c1 : ¬ ((s : Int) < (m : Int)) := by omega
                have c2 : (m : Int) < (e : Int) := by omega
                have c3 : ¬ ((a : Int) < (s : Int)) := by omega
                have c4 : (s : Int) < (mid : Int) := by omega
                have c5 : ¬ ((mid : Int) < (e : Int)) := by omega
                have c6 : (e : Int) < (b : Int) := by omega
                have SA : Aside (SWK enc k w0 blk off (X ++ (U1 ++ V1) ++ (U2 ++ V2) ++ Y).toArray wr) := by
                  have hz : U2 = [] := List.eq_nil_of_length_eq_zero (by have q := HQ.out; omega)
                  have := S1.out; rw [HL.out, HQ.out.1, HQ.out.2.1, hz] at this; rw [hz]; exact StCh.cong this (by simp [List.append_assoc])
                obtain ⟨LL, hLL⟩ : ∃ LL, LL = U1 ++ V1 := ⟨_, rfl⟩
                have SB : Aside (SWK enc k w0 blk off (X ++ LL ++ (U2 ++ V2) ++ Y).toArray wr ∧ SortedL (ltOf cf) LL ∧ Stab (ltOf cf) (U1 ++ V1) LL ∧ LL.length = U1.length + V1.length) := by
                  rw [hLL]
                  have hz : U1 = [] := List.eq_nil_of_length_eq_zero (by have q := HQ.out; omega)
                  refine ⟨SA.out, ?_, Stab.refl _, by simp⟩
                  rw [hz]; simpa using HV1.out
                clear hLL
                obtain ⟨RR, hRR⟩ : ∃ RR, RR = U2 ++ V2 := ⟨_, rfl⟩
                have SC : Aside (SWK enc k w0 blk off (X ++ LL ++ RR ++ Y).toArray wr ∧ SortedL (ltOf cf) RR ∧ Stab (ltOf cf) (U2 ++ V2) RR) := by
                  rw [hRR]
                  have hz : U2 = [] := List.eq_nil_of_length_eq_zero (by have q := HQ.out; omega)
                  refine ⟨SB.out.1, ?_, Stab.refl _⟩
                  rw [hz]; simpa using HV2.out
                clear hRR
                go_wp2
                all_goals
                  go_end0
                  have mf := merge_step HO.out U1 U2 V1 V2 LL RR (by rw [← HQ.out.1]; exact HSU.out) (by rw [← HQ.out.2.1]; exact HSV.out) HB1.out HB2.out SB.out.2.1 SC.out.2.1 SB.out.2.2.1 SC.out.2.2
                  exact ⟨rfl, LL ++ RR, by have := SC.out.1; exact StCh.cong this (by simp [List.append_assoc]), mf.1, by rw [HQ.out.1, HQ.out.2.1]; exact mf.2⟩
              · have _tk : True := trivial
                have c1 : ¬ ((s : Int) < (m : Int)) := by omega
                have c2 : ¬ ((m : Int) < (e : Int)) := by omega
                have c3 : ¬ ((a : Int) < (s : Int)) := by omega
                have c4 : ¬ ((s : Int) < (mid : Int)) := by omega
                have c5 : ¬ ((mid : Int) < (e : Int)) := by omega
                have c6 : (e : Int) < (b : Int) := by omega
                have SA : Aside (SWK enc k w0 blk off (X ++ (U1 ++ V1) ++ (U2 ++ V2) ++ Y).toArray wr) := by
                  have hz : U2 = [] := List.eq_nil_of_length_eq_zero (by have q := HQ.out; omega)
                  have := S1.out; rw [HL.out, HQ.out.1, HQ.out.2.1, hz] at this; rw [hz]; exact StCh.cong this (by simp [List.append_assoc])
                obtain ⟨LL, hLL⟩ : ∃ LL, LL = U1 ++ V1 := ⟨_, rfl⟩
                have SB : Aside (SWK enc k w0 blk off (X ++ LL ++ (U2 ++ V2) ++ Y).toArray wr ∧ SortedL (ltOf cf) LL ∧ Stab (ltOf cf) (U1 ++ V1) LL ∧ LL.length = U1.length + V1.length) := by
                  rw [hLL]
                  have hz : U1 = [] := List.eq_nil_of_length_eq_zero (by have q := HQ.out; omega)
                  refine ⟨SA.out, ?_, Stab.refl _, by simp⟩
                  rw [hz]; simpa using HV1.out
                clear hLL
                obtain ⟨RR, hRR⟩ : ∃ RR, RR = U2 ++ V2 := ⟨_, rfl⟩
                have SC : Aside (SWK enc k w0 blk off (X ++ LL ++ RR ++ Y).toArray wr ∧ SortedL (ltOf cf) RR ∧ Stab (ltOf cf) (U2 ++ V2) RR) := by
                  rw [hRR]
                  have hz : U2 = [] := List.eq_nil_of_length_eq_zero (by have q := HQ.out; omega)
                  refine ⟨SB.out.1, ?_, Stab.refl _⟩
                  rw [hz]; simpa using HV2.out
                clear hRR
                go_wp2
                all_goals
                  go_end0
                  have mf := merge_step HO.out U1 U2 V1 V2 LL RR (by rw [← HQ.out.1]; exact HSU.out) (by rw [← HQ.out.2.1]; exact HSV.out) HB1.out HB2.out SB.out.2.1 SC.out.2.1 SB.out.2.2.1 SC.out.2.2
                  exact ⟨rfl, LL ++ RR, by have := SC.out.1; exact StCh.cong this (by simp [List.append_assoc]), mf.1, by rw [HQ.out.1, HQ.out.2.1]; exact mf.2⟩
            · have _tk : True := trivial
              by_cases q2 : m < e
              · have _tk : True := trivial
                have c1 : ¬ ((s : Int) < (m : Int)) := by omega
                have c2 : (m : Int) < (e : Int) := by omega
                have c3 : ¬ ((a : Int) < (s : Int)) := by omega
                have c4 : (s : Int) < (mid : Int) := by omega
                have c5 : ¬ ((mid : Int) < (e : Int)) := by omega
                have c6 : ¬ ((e : Int) < (b : Int)) := by omega
                have SA : Aside (SWK enc k w0 blk off (X ++ (U1 ++ V1) ++ (U2 ++ V2) ++ Y).toArray wr) := by
                  have hz : U2 = [] := List.eq_nil_of_length_eq_zero (by have q := HQ.out; omega)
                  have := S1.out; rw [HL.out, HQ.out.1, HQ.out.2.1, hz] at this; rw [hz]; exact StCh.cong this (by simp [List.append_assoc])
                obtain ⟨LL, hLL⟩ : ∃ LL, LL = U1 ++ V1 := ⟨_, rfl⟩
                have SB : Aside (SWK enc k w0 blk off (X ++ LL ++ (U2 ++ V2) ++ Y).toArray wr ∧ SortedL (ltOf cf) LL ∧ Stab (ltOf cf) (U1 ++ V1) LL ∧ LL.length = U1.length + V1.length) := by
                  rw [hLL]
                  have hz : U1 = [] := List.eq_nil_of_length_eq_zero (by have q := HQ.out; omega)
                  refine ⟨SA.out, ?_, Stab.refl _, by simp⟩
                  rw [hz]; simpa using HV1.out
                clear hLL
                obtain ⟨RR, hRR⟩ : ∃ RR, RR = U2 ++ V2 := ⟨_, rfl⟩
                have SC : Aside (SWK enc k w0 blk off (X ++ LL ++ RR ++ Y).toArray wr ∧ SortedL (ltOf cf) RR ∧ Stab (ltOf cf) (U2 ++ V2) RR) := by
                  rw [hRR]
                  have hz : U2 = [] := List.eq_nil_of_length_eq_zero (by have q := HQ.out; omega)
                  refine ⟨SB.out.1, ?_, Stab.refl _⟩
                  rw [hz]; simpa using HV2.out
                clear hRR
                go_wp2
                all_goals
                  go_end0
                  have mf := merge_step HO.out U1 U2 V1 V2 LL RR (by rw [← HQ.out.1]; exact HSU.out) (by rw [← HQ.out.2.1]; exact HSV.out) HB1.out HB2.out SB.out.2.1 SC.out.2.1 SB.out.2.2.1 SC.out.2.2
                  exact ⟨rfl, LL ++ RR, by have := SC.out.1; exact StCh.cong this (by simp [List.append_assoc]), mf.1, by rw [HQ.out.1, HQ.out.2.1]; exact mf.2⟩
              · have _tk : True := trivial
                have c1 : ¬ ((s : Int) < (m : Int)) := by omega
                have c2 : ¬ ((m : Int) < (e : Int)) := by omega
                have c3 : ¬ ((a : Int) < (s : Int)) := by omega
                have c4 : ¬ ((s : Int) < (mid : Int)) := by omega
                have c5 : ¬ ((mid : Int) < (e : Int)) := by omega
                have c6 : ¬ ((e : Int) < (b : Int)) := by omega
                have SA : Aside (SWK enc k w0 blk off (X ++ (U1 ++ V1) ++ (U2 ++ V2) ++ Y).toArray wr) := by
                  have hz : U2 = [] := List.eq_nil_of_length_eq_zero (by have q := HQ.out; omega)
                  have := S1.out; rw [HL.out, HQ.out.1, HQ.out.2.1, hz] at this; rw [hz]; exact StCh.cong this (by simp [List.append_assoc])
                obtain ⟨LL, hLL⟩ : ∃ LL, LL = U1 ++ V1 := ⟨_, rfl⟩
                have SB : Aside (SWK enc k w0 blk off (X ++ LL ++ (U2 ++ V2) ++ Y).toArray wr ∧ SortedL (ltOf cf) LL ∧ Stab (ltOf cf) (U1 ++ V1) LL ∧ LL.length = U1.length + V1.length) := by
                  rw [hLL]
                  have hz : U1 = [] := List.eq_nil_of_length_eq_zero (by have q := HQ.out; omega)
                  refine ⟨SA.out, ?_, Stab.refl _, by simp⟩
                  rw [hz]; simpa using HV1.out
                clear hLL
                obtain ⟨RR, hRR⟩ : ∃ RR, RR = U2 ++ V2 := ⟨_, rfl⟩
                have SC : Aside (SWK enc k w0 blk off (X ++ LL ++ RR ++ Y).toArray wr ∧ SortedL (ltOf cf) RR ∧ Stab (ltOf cf) (U2 ++ V2) RR) := by
                  rw [hRR]
                  have hz : U2 = [] := List.eq_nil_of_length_eq_zero (by have q := HQ.out; omega)
                  refine ⟨SB.out.1, ?_, Stab.refl _⟩
                  rw [hz]; simpa using HV2.out
                clear hRR
                go_wp2
                all_goals
                  go_end0
                  have mf := merge_step HO.out U1 U2 V1 V2 LL RR (by rw [← HQ.out.1]; exact HSU.out) (by rw [← HQ.out.2.1]; exact HSV.out) HB1.out HB2.out SB.out.2.1 SC.out.2.1 SB.out.2.2.1 SC.out.2.2
                  exact ⟨rfl, LL ++ RR, by have := SC.out.1; exact StCh.cong this (by simp [List.append_assoc]), mf.1, by rw [HQ.out.1, HQ.out.2.1]; exact mf.2⟩
  · go_enter L.fsym, Try.ntmps53
    have gm : ¬ ((mid : Int) < (m : Int)) := by omega
    go_wp2
    go_loopg [20, 21] (m - a) (fun gk s20 s21 wr => ∃ s r : Nat, s20 = .int .i64 s ∧ s21 = .int .i64 r ∧ a ≤ s ∧ s ≤ r ∧ r ≤ m ∧ r - s ≤ gk ∧ Aside (SWK enc k w0 blk off l.toArray wr) ∧
      Aside ((s = a ∨ ltOf cf l.toArray[mid + m - s]! l.toArray[s - 1]! = false) ∧ (r = m ∨ ltOf cf l.toArray[mid + m - 1 - r]! l.toArray[r]! = true)))
    case atStart => exact ⟨a, m, rfl, rfl, Nat.le_refl _, by omega, Nat.le_refl _, Nat.le_refl _, S0, ⟨.inl rfl, .inl rfl⟩⟩
    case round =>
      clear S0
      obtain ⟨s, r, rfl, rfl, hss, hsr, hrr, hg, S1, I⟩ := hrel
      by_cases hlt : s < r
      · obtain ⟨c, hh⟩ : ∃ c, c = (s + r) / 2 := ⟨_, rfl⟩
        have hz1 : ((s : Int) + (r : Int)) / 2 = (c : Int) := by omega
        have hsc : s ≤ c := by omega
        have hcr : c < r := by omega
        clear hh
        obtain ⟨d, hd⟩ : ∃ d, d = mid + m - 1 - c := ⟨_, rfl⟩
        have hz2 : (mid : Int) + (m : Int) - 1 - (c : Int) = (d : Int) := by omega
        have hdb : d < b := by omega
        have hltz : (s : Int) < (r : Int) := by omega
        have hsz := HE.out.1
        have l1 := S1.out.ld R (by rw [hsz]; exact HE.out.2.symm) P d (by rw [hsz]; omega)
        have l2 := S1.out.ld R (by rw [hsz]; exact HE.out.2.symm) P c (by rw [hsz]; omega)
        obtain ⟨y, hy⟩ : ∃ y, y = l.toArray[d]! := ⟨_, rfl⟩
        obtain ⟨x1, hx1⟩ : ∃ y, y = l.toArray[c]! := ⟨_, rfl⟩
        rw [← hy] at l1
        rw [← hx1] at l2
        have hc := S1.out.cmp HC.out hsz y x1
        have HY : Hid (y = l.toArray[d]! ∧ x1 = l.toArray[c]! ∧ d = mid + m - 1 - c) := ⟨hy, hx1, hd⟩
        clear hsz hy hx1 hd
        have pa1 : (0 : Int) ≤ (d : Int) := by omega
        have ba1 : (d : Int) < (sz : Int) := by omega
        have pa2 : (0 : Int) ≤ (c : Int) := by omega
        have ba2 : (c : Int) < (sz : Int) := by omega
        have rd : IntKind.i64.wrap (d : Int) = (d : Int) := by rw [IntKind.wrap_i64]; omega
        by_cases hlv : cf y x1 < 0
        · have hdv : decide (cf y x1 < 0) = true := decide_eq_true hlv
          go_wp2_with fail
          go_quiet_grown (first | (go_at_fn g; refine Calls.grown_of (hc _ _)))
          have S2 : Aside (SWK enc k w0 blk off l.toArray (grow (wr.drewN nq) osq)) := S1.out.grown nq osq
          clear l1 l2 hc S1 rd
          generalize grow (wr.drewN nq) osq = wv at S2 ⊢
          clear nq osq
          go_wp2
          go_roundg (c - s)
          case measure => omega
          case rel =>
            have I2 : Aside ((s = a ∨ ltOf cf l.toArray[mid + m - s]! l.toArray[s - 1]! = false) ∧ (c = m ∨ ltOf cf l.toArray[mid + m - 1 - c]! l.toArray[c]! = true)) := ⟨I.out.1, .inr (by rw [← HY.out.2.2, ← HY.out.1, ← HY.out.2.1]; exact hdv)⟩
            exact ⟨s, c, rfl, rfl, hss, hsc, by omega, Nat.le_refl _, S2, I2⟩
        -- not less
        · have hdv : decide (cf y x1 < 0) = false := decide_eq_false hlv
          go_wp2_with fail
          go_quiet_grown (first | (go_at_fn g; refine Calls.grown_of (hc _ _)))
          have S2 : Aside (SWK enc k w0 blk off l.toArray (grow (wr.drewN nq) osq)) := S1.out.grown nq osq
          clear l1 l2 hc S1 rd
          generalize grow (wr.drewN nq) osq = wv at S2 ⊢
          clear nq osq
          go_wp2
          go_roundg (r - (c + 1))
          case measure => omega
          case rel =>
            have I2 : Aside ((c + 1 = a ∨ ltOf cf l.toArray[mid + m - (c + 1)]! l.toArray[c + 1 - 1]! = false) ∧ (r = m ∨ ltOf cf l.toArray[mid + m - 1 - r]! l.toArray[r]! = true)) := ⟨.inr (by rw [Nat.add_sub_cancel, show mid + m - (c + 1) = mid + m - 1 - c from by omega, ← HY.out.2.2, ← HY.out.1, ← HY.out.2.1]; exact hdv), I.out.2⟩
            exact ⟨c + 1, r, by go_num, rfl, by omega, by omega, hrr, Nat.le_refl _, S2, I2⟩
      · obtain rfl : r = s := by omega
        obtain ⟨e, he⟩ : ∃ e, e = mid + m - r := ⟨_, rfl⟩
        have ze : (mid : Int) + (m : Int) - (r : Int) = (e : Int) := by omega
        have k1 : a ≤ r := by omega
        have k2 : r ≤ m := by omega
        have k3 : m ≤ e := by omega
        have k4 : e ≤ b := by omega
        have k5 : r ≤ mid := by omega
        have k6 : r + e ≤ mid + m := by omega
        have k7 : mid + m ≤ r + e := by omega
        have hI : (r = a ∨ ltOf cf l.toArray[e]! l.toArray[r - 1]! = false ∨ e = b) ∧ (r = m ∨ ltOf cf l.toArray[e - 1]! l.toArray[r]! = true ∨ e = m) := by
          have h := I.out; rw [← he, show mid + m - 1 - r = e - 1 from by omega] at h
          exact ⟨h.1.elim (fun h => .inl h) (fun h => .inr (.inl h)), h.2.elim (fun h => .inl h) (fun h => .inr (.inl h))⟩
        clear he I hss hrr hg hlt gm
        have hnn : ¬ ((r : Int) < (r : Int)) := by omega
        obtain ⟨s, hs_⟩ : ∃ s, s = r := ⟨_, rfl⟩
        subst hs_
        obtain ⟨U1, U2, hU, hU1⟩ : ∃ U1 U2, U = U1 ++ U2 ∧ U1.length = s - a := ⟨U.take (s - a), U.drop (s - a), (List.take_append_drop _ _).symm, by have q := HM.out; simp; omega⟩
        obtain ⟨V1, V2, hV, hV1⟩ : ∃ V1 V2, V = V1 ++ V2 ∧ V1.length = e - m := ⟨V.take (e - m), V.drop (e - m), (List.take_append_drop _ _).symm, by have q := HM.out; simp; omega⟩
        have HQ : Hid (U = U1 ++ U2 ∧ V = V1 ++ V2 ∧ X.length = a ∧ a + U1.length = s ∧ s + U2.length = m ∧ m + V1.length = e ∧ e + V2.length = b ∧ b + Y.length = sz ∧ mid + m = s + e) := by
          have q := HM.out
          have p1 := congrArg List.length hU; have p2 := congrArg List.length hV
          simp at p1 p2
          exact ⟨hU, hV, by omega, by omega, by omega, by omega, by omega, by omega, by omega⟩
        have HU1 : Aside (SortedL (ltOf cf) U1) := by have q := HSU.out; rw [hU] at q; exact SortedL.left (lt := ltOf cf) q
        have HU2 : Aside (SortedL (ltOf cf) U2) := by have q := HSU.out; rw [hU] at q; exact SortedL.right (lt := ltOf cf) q
        have HV1 : Aside (SortedL (ltOf cf) V1) := by have q := HSV.out; rw [hV] at q; exact SortedL.left (lt := ltOf cf) q
        have HV2 : Aside (SortedL (ltOf cf) V2) := by have q := HSV.out; rw [hV] at q; exact SortedL.right (lt := ltOf cf) q
        have HB1 : Aside (∀ u, U2.head? = some u → ∀ v, V1.getLast? = some v → ltOf cf v u = true) := by
          intro u hu v hv
          obtain ⟨V1', rfl⟩ := List.getLast?_eq_some_iff.1 hv
          cases U2 with
          | nil => cases hu
          | cons u' U3 =>
            have hu' : u' = u := by simpa using hu
            subst hu'
            have q := HQ.out
            have h := hI.2
            have h := (h.resolve_left (by simp at q; omega)).resolve_right (by simp at q; omega)
            have e1 : l = (X ++ U1) ++ u' :: (U3 ++ ((V1' ++ [v]) ++ V2) ++ Y) := by rw [HL.out, q.1, q.2.1]; simp
            have e2 : l = (X ++ (U1 ++ u' :: U3) ++ V1') ++ v :: (V2 ++ Y) := by rw [HL.out, q.1, q.2.1]; simp
            have f1 := get_mid (X ++ U1) u' (U3 ++ ((V1' ++ [v]) ++ V2) ++ Y)
            have f2 := get_mid (X ++ (U1 ++ u' :: U3) ++ V1') v (V2 ++ Y)
            rw [← e1, show (X ++ U1).length = s from by simp; omega] at f1
            rw [← e2, show (X ++ (U1 ++ u' :: U3) ++ V1').length = e - 1 from by simp at q ⊢; omega] at f2
            rw [f1, f2] at h
            exact h
        have HB2 : Aside (∀ u, U1.getLast? = some u → ∀ v, V2.head? = some v → ltOf cf v u = false) := by
          intro u hu v hv
          obtain ⟨U1', rfl⟩ := List.getLast?_eq_some_iff.1 hu
          cases V2 with
          | nil => cases hv
          | cons v' V3 =>
            have hv' : v' = v := by simpa using hv
            subst hv'
            have q := HQ.out
            have h := hI.1
            have h := (h.resolve_left (by simp at q; omega)).resolve_right (by simp at q; omega)
            have e1 : l = (X ++ U1') ++ u :: (U2 ++ (V1 ++ v' :: V3) ++ Y) := by rw [HL.out, q.1, q.2.1]; simp
            have e2 : l = (X ++ ((U1' ++ [u]) ++ U2) ++ V1) ++ v' :: (V3 ++ Y) := by rw [HL.out, q.1, q.2.1]; simp
            have f1 := get_mid (X ++ U1') u (U2 ++ (V1 ++ v' :: V3) ++ Y)
            have f2 := get_mid (X ++ ((U1' ++ [u]) ++ U2) ++ V1) v' (V3 ++ Y)
            rw [← e1, show (X ++ U1').length = s - 1 from by simp at q ⊢; omega] at f1
            rw [← e2, show (X ++ ((U1' ++ [u]) ++ U2) ++ V1).length = e from by simp at q ⊢; omega] at f2
            rw [f1, f2] at h
            exact h
        clear hI hU hU1 hV hV1
        by_cases q1 : s < m
        · have _tk : True := trivial
          by_cases q3 : a < s
          · have _tk : True := trivial
            by_cases q6 : e < b
            · have _tk : True := trivial
              by_cases q2 : m < e
              · have _tk : True := trivial
                have c1 : (s : Int) < (m : Int) := by omega
                have c2 : (m : Int) < (e : Int) := by omega
                have c3 : (a : Int) < (s : Int) := by omega
                have c4 : (s : Int) < (mid : Int) := by omega
                have c5 : (mid : Int) < (e : Int) := by omega
                have c6 : (e : Int) < (b : Int) := by omega
                have hr := StCh.rotate L enc g cb blk off cap s m e sz (X ++ U1) U2 V1 (V2 ++ Y) d0 w0 wr R (by have q := HQ.out; simp; omega) (by have q := HQ.out; simp; omega) (by have q := HQ.out; simp; omega) (by have q := HQ.out; omega) (by have q := HQ.out; omega) (by have q := HQ.out; simp; omega) HE.out.2 hbig (by have := S1.out; rw [HL.out, HQ.out.1, HQ.out.2.1] at this; exact StCh.cong this (by simp [List.append_assoc]))
                have HR : Hid (type_of% hr) := hr
                clear hr
                go_wp2_with fail
                refine HR.out.mono ?_
                rintro e1 w1 ⟨rfl, S2⟩
                have SA : Aside (SWK enc k w0 blk off (X ++ (U1 ++ V1) ++ (U2 ++ V2) ++ Y).toArray w1) := StCh.cong S2 (by simp [List.append_assoc])
                clear S2 HR
                have hb := IH2.out (mid - a) (by omega) a s mid X U1 V1 ((U2 ++ V2) ++ Y) w1 (by omega) (by have q := HQ.out; omega) (by have q := HQ.out; omega) (by have q := HQ.out; omega) (by have q := HQ.out; omega) (by have q := HQ.out; omega) (by have q := HQ.out; simp; omega) HU1.out HV1.out (by have := SA.out; exact StCh.cong this (by simp [List.append_assoc]))
                have HB : Hid (type_of% hb) := hb
                clear hb
                go_wp2_with fail
                refine HB.out.mono ?_
                rintro e2 w2 ⟨rfl, LL, S3, q1, q2⟩
                have hLl := (q2.length HO.out).symm
                have SB : Aside (SWK enc k w0 blk off (X ++ LL ++ (U2 ++ V2) ++ Y).toArray w2 ∧ SortedL (ltOf cf) LL ∧ Stab (ltOf cf) (U1 ++ V1) LL ∧ LL.length = U1.length + V1.length) := ⟨StCh.cong S3 (by simp [List.append_assoc]), q1, q2, by rw [hLl]; simp⟩
                clear S3 q1 q2 hLl HB SA
                have hd := IH2.out (b - mid) (by omega) mid e b (X ++ LL) U2 V2 Y w2 (by omega) (by have q := HQ.out; have q2 := SB.out.2.2.2; simp; omega) (by have q := HQ.out; have q2 := SB.out.2.2.2; simp; omega) (by have q := HQ.out; have q2 := SB.out.2.2.2; simp; omega) (by have q := HQ.out; omega) (by have q := HQ.out; omega) (by have q := HQ.out; have q2 := SB.out.2.2.2; simp; omega) HU2.out HV2.out (by have := SB.out.1; exact StCh.cong this (by simp [List.append_assoc]))
                have HD : Hid (type_of% hd) := hd
                clear hd
                go_wp2_with fail
                refine HD.out.mono ?_
                rintro e3 w3 ⟨rfl, RR, S4, q1, q2⟩
                have SC : Aside (SWK enc k w0 blk off (X ++ LL ++ RR ++ Y).toArray w3 ∧ SortedL (ltOf cf) RR ∧ Stab (ltOf cf) (U2 ++ V2) RR) := ⟨StCh.cong S4 (by simp [List.append_assoc]), q1, q2⟩
                clear S4 q1 q2 HD
                go_wp2
                all_goals
                  go_end0
                  have mf := merge_step HO.out U1 U2 V1 V2 LL RR (by rw [← HQ.out.1]; exact HSU.out) (by rw [← HQ.out.2.1]; exact HSV.out) HB1.out HB2.out SB.out.2.1 SC.out.2.1 SB.out.2.2.1 SC.out.2.2
                  exact ⟨rfl, LL ++ RR, by have := SC.out.1; exact StCh.cong this (by simp [List.append_assoc]), mf.1, by rw [HQ.out.1, HQ.out.2.1]; exact mf.2⟩
              · have _tk : True := trivial
                have c1 : (s : Int) < (m : Int) := by omega
                have c2 : ¬ ((m : Int) < (e : Int)) := by omega
                have c3 : (a : Int) < (s : Int) := by omega
                have c4 : ¬ ((s : Int) < (mid : Int)) := by omega
                have c5 : (mid : Int) < (e : Int) := by omega
                have c6 : (e : Int) < (b : Int) := by omega
                have SA : Aside (SWK enc k w0 blk off (X ++ (U1 ++ V1) ++ (U2 ++ V2) ++ Y).toArray wr) := by
                  have hz : V1 = [] := List.eq_nil_of_length_eq_zero (by have q := HQ.out; omega)
                  have := S1.out; rw [HL.out, HQ.out.1, HQ.out.2.1, hz] at this; rw [hz]; exact StCh.cong this (by simp [List.append_assoc])
                obtain ⟨LL, hLL⟩ : ∃ LL, LL = U1 ++ V1 := ⟨_, rfl⟩
                have SB : Aside (SWK enc k w0 blk off (X ++ LL ++ (U2 ++ V2) ++ Y).toArray wr ∧ SortedL (ltOf cf) LL ∧ Stab (ltOf cf) (U1 ++ V1) LL ∧ LL.length = U1.length + V1.length) := by
                  rw [hLL]
                  have hz : V1 = [] := List.eq_nil_of_length_eq_zero (by have q := HQ.out; omega)
                  refine ⟨SA.out, ?_, Stab.refl _, by simp⟩
                  rw [hz]; simpa using HU1.out
                clear hLL
                have hd := IH2.out (b - mid) (by omega) mid e b (X ++ LL) U2 V2 Y wr (by omega) (by have q := HQ.out; have q2 := SB.out.2.2.2; simp; omega) (by have q := HQ.out; have q2 := SB.out.2.2.2; simp; omega) (by have q := HQ.out; have q2 := SB.out.2.2.2; simp; omega) (by have q := HQ.out; omega) (by have q := HQ.out; omega) (by have q := HQ.out; have q2 := SB.out.2.2.2; simp; omega) HU2.out HV2.out (by have := SB.out.1; exact StCh.cong this (by simp [List.append_assoc]))
                have HD : Hid (type_of% hd) := hd
                clear hd
                go_wp2_with fail
                refine HD.out.mono ?_
                rintro e3 w3 ⟨rfl, RR, S4, q1, q2⟩
                have SC : Aside (SWK enc k w0 blk off (X ++ LL ++ RR ++ Y).toArray w3 ∧ SortedL (ltOf cf) RR ∧ Stab (ltOf cf) (U2 ++ V2) RR) := ⟨StCh.cong S4 (by simp [List.append_assoc]), q1, q2⟩
                clear S4 q1 q2 HD
                go_wp2
                all_goals
                  go_end0
                  have mf := merge_step HO.out U1 U2 V1 V2 LL RR (by rw [← HQ.out.1]; exact HSU.out) (by rw [← HQ.out.2.1]; exact HSV.out) HB1.out HB2.out SB.out.2.1 SC.out.2.1 SB.out.2.2.1 SC.out.2.2
                  exact ⟨rfl, LL ++ RR, by have := SC.out.1; exact StCh.cong this (by simp [List.append_assoc]), mf.1, by rw [HQ.out.1, HQ.out.2.1]; exact mf.2⟩
            · have _tk : True := trivial
              by_cases q2 : m < e
              · have _tk : True := trivial
                have c1 : (s : Int) < (m : Int) := by omega
                have c2 : (m : Int) < (e : Int) := by omega
                have c3 : (a : Int) < (s : Int) := by omega
                have c4 : (s : Int) < (mid : Int) := by omega
                have c5 : (mid : Int) < (e : Int) := by omega
                have c6 : ¬ ((e : Int) < (b : Int)) := by omega
                have hr := StCh.rotate L enc g cb blk off cap s m e sz (X ++ U1) U2 V1 (V2 ++ Y) d0 w0 wr R (by have q := HQ.out; simp; omega) (by have q := HQ.out; simp; omega) (by have q := HQ.out; simp; omega) (by have q := HQ.out; omega) (by have q := HQ.out; omega) (by have q := HQ.out; simp; omega) HE.out.2 hbig (by have := S1.out; rw [HL.out, HQ.out.1, HQ.out.2.1] at this; exact StCh.cong this (by simp [List.append_assoc]))
                have HR : Hid (type_of% hr) := hr
                clear hr
                go_wp2_with fail
                refine HR.out.mono ?_
                rintro e1 w1 ⟨rfl, S2⟩
                have SA : Aside (SWK enc k w0 blk off (X ++ (U1 ++ V1) ++ (U2 ++ V2) ++ Y).toArray w1) := StCh.cong S2 (by simp [List.append_assoc])
                clear S2 HR
                have hb := IH2.out (mid - a) (by omega) a s mid X U1 V1 ((U2 ++ V2) ++ Y) w1 (by omega) (by have q := HQ.out; omega) (by have q := HQ.out; omega) (by have q := HQ.out; omega) (by have q := HQ.out; omega) (by have q := HQ.out; omega) (by have q := HQ.out; simp; omega) HU1.out HV1.out (by have := SA.out; exact StCh.cong this (by simp [List.append_assoc]))
                have HB : Hid (type_of% hb) := hb
                clear hb
                go_wp2_with fail
                refine HB.out.mono ?_
                rintro e2 w2 ⟨rfl, LL, S3, q1, q2⟩
                have hLl := (q2.length HO.out).symm
                have SB : Aside (SWK enc k w0 blk off (X ++ LL ++ (U2 ++ V2) ++ Y).toArray w2 ∧ SortedL (ltOf cf) LL ∧ Stab (ltOf cf) (U1 ++ V1) LL ∧ LL.length = U1.length + V1.length) := ⟨StCh.cong S3 (by simp [List.append_assoc]), q1, q2, by rw [hLl]; simp⟩
                clear S3 q1 q2 hLl HB SA
                obtain ⟨RR, hRR⟩ : ∃ RR, RR = U2 ++ V2 := ⟨_, rfl⟩
                have SC : Aside (SWK enc k w0 blk off (X ++ LL ++ RR ++ Y).toArray w2 ∧ SortedL (ltOf cf) RR ∧ Stab (ltOf cf) (U2 ++ V2) RR) := by
                  rw [hRR]
                  have hz : V2 = [] := List.eq_nil_of_length_eq_zero (by have q := HQ.out; omega)
                  refine ⟨SB.out.1, ?_, Stab.refl _⟩
                  rw [hz]; simpa using HU2.out
                clear hRR
                go_wp2
                all_goals
                  go_end0
                  have mf := merge_step HO.out U1 U2 V1 V2 LL RR (by rw [← HQ.out.1]; exact HSU.out) (by rw [← HQ.out.2.1]; exact HSV.out) HB1.out HB2.out SB.out.2.1 SC.out.2.1 SB.out.2.2.1 SC.out.2.2
                  exact ⟨rfl, LL ++ RR, by have := SC.out.1; exact StCh.cong this (by simp [List.append_assoc]), mf.1, by rw [HQ.out.1, HQ.out.2.1]; exact mf.2⟩
              · have _tk : True := trivial
                have c1 : (s : Int) < (m : Int) := by omega
                have c2 : ¬ ((m : Int) < (e : Int)) := by omega
                have c3 : (a : Int) < (s : Int) := by omega
                have c4 : ¬ ((s : Int) < (mid : Int)) := by omega
                have c5 : (mid : Int) < (e : Int) := by omega
                have c6 : ¬ ((e : Int) < (b : Int)) := by omega
                have SA : Aside (SWK enc k w0 blk off (X ++ (U1 ++ V1) ++ (U2 ++ V2) ++ Y).toArray wr) := by
                  have hz : V1 = [] := List.eq_nil_of_length_eq_zero (by have q := HQ.out; omega)
                  have := S1.out; rw [HL.out, HQ.out.1, HQ.out.2.1, hz] at this; rw [hz]; exact StCh.cong this (by simp [List.append_assoc])
                obtain ⟨LL, hLL⟩ : ∃ LL, LL = U1 ++ V1 := ⟨_, rfl⟩
                have SB : Aside (SWK enc k w0 blk off (X ++ LL ++ (U2 ++ V2) ++ Y).toArray wr ∧ SortedL (ltOf cf) LL ∧ Stab (ltOf cf) (U1 ++ V1) LL ∧ LL.length = U1.length + V1.length) := by
                  rw [hLL]
                  have hz : V1 = [] := List.eq_nil_of_length_eq_zero (by have q := HQ.out; omega)
                  refine ⟨SA.out, ?_, Stab.refl _, by simp⟩
                  rw [hz]; simpa using HU1.out
                clear hLL
                obtain ⟨RR, hRR⟩ : ∃ RR, RR = U2 ++ V2 := ⟨_, rfl⟩
                have SC : Aside (SWK enc k w0 blk off (X ++ LL ++ RR ++ Y).toArray wr ∧ SortedL (ltOf cf) RR ∧ Stab (ltOf cf) (U2 ++ V2) RR) := by
                  rw [hRR]
                  have hz : V2 = [] := List.eq_nil_of_length_eq_zero (by have q := HQ.out; omega)
                  refine ⟨SB.out.1, ?_, Stab.refl _⟩
                  rw [hz]; simpa using HU2.out
                clear hRR
                go_wp2
                all_goals
                  go_end0
                  have mf := merge_step HO.out U1 U2 V1 V2 LL RR (by rw [← HQ.out.1]; exact HSU.out) (by rw [← HQ.out.2.1]; exact HSV.out) HB1.out HB2.out SB.out.2.1 SC.out.2.1 SB.out.2.2.1 SC.out.2.2
                  exact ⟨rfl, LL ++ RR, by have := SC.out.1; exact StCh.cong this (by simp [List.append_assoc]), mf.1, by rw [HQ.out.1, HQ.out.2.1]; exact mf.2⟩
          · have _tk : True := trivial
            by_cases q6 : e < b
            · have _tk : True := trivial
              by_cases q2 : m < e
              · have _tk : True := trivial
                have c1 : (s : Int) < (m : Int) := by omega
                have c2 : (m : Int) < (e : Int) := by omega
                have c3 : ¬ ((a : Int) < (s : Int)) := by omega
                have c4 : (s : Int) < (mid : Int) := by omega
                have c5 : (mid : Int) < (e : Int) := by omega
                have c6 : (e : Int) < (b : Int) := by omega
                have hr := StCh.rotate L enc g cb blk off cap s m e sz (X ++ U1) U2 V1 (V2 ++ Y) d0 w0 wr R (by have q := HQ.out; simp; omega) (by have q := HQ.out; simp; omega) (by have q := HQ.out; simp; omega) (by have q := HQ.out; omega) (by have q := HQ.out; omega) (by have q := HQ.out; simp; omega) HE.out.2 hbig (by have := S1.out; rw [HL.out, HQ.out.1, HQ.out.2.1] at this; exact StCh.cong this (by simp [List.append_assoc]))
                have HR : Hid (type_of% hr) := hr
                clear hr
                go_wp2_with fail
                refine HR.out.mono ?_
                rintro e1 w1 ⟨rfl, S2⟩
                have SA : Aside (SWK enc k w0 blk off (X ++ (U1 ++ V1) ++ (U2 ++ V2) ++ Y).toArray w1) := StCh.cong S2 (by simp [List.append_assoc])
                clear S2 HR
                obtain ⟨LL, hLL⟩ : ∃ LL, LL = U1 ++ V1 := ⟨_, rfl⟩
                have SB : Aside (SWK enc k w0 blk off (X ++ LL ++ (U2 ++ V2) ++ Y).toArray w1 ∧ SortedL (ltOf cf) LL ∧ Stab (ltOf cf) (U1 ++ V1) LL ∧ LL.length = U1.length + V1.length) := by
                  rw [hLL]
                  have hz : U1 = [] := List.eq_nil_of_length_eq_zero (by have q := HQ.out; omega)
                  refine ⟨SA.out, ?_, Stab.refl _, by simp⟩
                  rw [hz]; simpa using HV1.out
                clear hLL
                have hd := IH2.out (b - mid) (by omega) mid e b (X ++ LL) U2 V2 Y w1 (by omega) (by have q := HQ.out; have q2 := SB.out.2.2.2; simp; omega) (by have q := HQ.out; have q2 := SB.out.2.2.2; simp; omega) (by have q := HQ.out; have q2 := SB.out.2.2.2; simp; omega) (by have q := HQ.out; omega) (by have q := HQ.out; omega) (by have q := HQ.out; have q2 := SB.out.2.2.2; simp; omega) HU2.out HV2.out (by have := SB.out.1; exact StCh.cong this (by simp [List.append_assoc]))
                have HD : Hid (type_of% hd) := hd
                clear hd
                go_wp2_with fail
                refine HD.out.mono ?_
                rintro e3 w3 ⟨rfl, RR, S4, q1, q2⟩
                have SC : Aside (SWK enc k w0 blk off (X ++ LL ++ RR ++ Y).toArray w3 ∧ SortedL (ltOf cf) RR ∧ Stab (ltOf cf) (U2 ++ V2) RR) := ⟨StCh.cong S4 (by simp [List.append_assoc]), q1, q2⟩
                clear S4 q1 q2 HD
                go_wp2
                all_goals
                  go_end0
                  have mf := merge_step HO.out U1 U2 V1 V2 LL RR (by rw [← HQ.out.1]; exact HSU.out) (by rw [← HQ.out.2.1]; exact HSV.out) HB1.out HB2.out SB.out.2.1 SC.out.2.1 SB.out.2.2.1 SC.out.2.2
                  exact ⟨rfl, LL ++ RR, by have := SC.out.1; exact StCh.cong this (by simp [List.append_assoc]), mf.1, by rw [HQ.out.1, HQ.out.2.1]; exact mf.2⟩
              · have _tk : True := trivial
                have c1 : (s : Int) < (m : Int) := by omega
                have c2 : ¬ ((m : Int) < (e : Int)) := by omega
                have c3 : ¬ ((a : Int) < (s : Int)) := by omega
                have c4 : ¬ ((s : Int) < (mid : Int)) := by omega
                have c5 : (mid : Int) < (e : Int) := by omega
                have c6 : (e : Int) < (b : Int) := by omega
                have SA : Aside (SWK enc k w0 blk off (X ++ (U1 ++ V1) ++ (U2 ++ V2) ++ Y).toArray wr) := by
                  have hz : V1 = [] := List.eq_nil_of_length_eq_zero (by have q := HQ.out; omega)
                  have := S1.out; rw [HL.out, HQ.out.1, HQ.out.2.1, hz] at this; rw [hz]; exact StCh.cong this (by simp [List.append_assoc])
                obtain ⟨LL, hLL⟩ : ∃ LL, LL = U1 ++ V1 := ⟨_, rfl⟩
                have SB : Aside (SWK enc k w0 blk off (X ++ LL ++ (U2 ++ V2) ++ Y).toArray wr ∧ SortedL (ltOf cf) LL ∧ Stab (ltOf cf) (U1 ++ V1) LL ∧ LL.length = U1.length + V1.length) := by
                  rw [hLL]
                  have hz : U1 = [] := List.eq_nil_of_length_eq_zero (by have q := HQ.out; omega)
                  refine ⟨SA.out, ?_, Stab.refl _, by simp⟩
                  rw [hz]; simpa using HV1.out
                clear hLL
                have hd := IH2.out (b - mid) (by omega) mid e b (X ++ LL) U2 V2 Y wr (by omega) (by have q := HQ.out; have q2 := SB.out.2.2.2; simp; omega) (by have q := HQ.out; have q2 := SB.out.2.2.2; simp; omega) (by have q := HQ.out; have q2 := SB.out.2.2.2; simp; omega) (by have q := HQ.out; omega) (by have q := HQ.out; omega) (by have q := HQ.out; have q2 := SB.out.2.2.2; simp; omega) HU2.out HV2.out (by have := SB.out.1; exact StCh.cong this (by simp [List.append_assoc]))
                have HD : Hid (type_of% hd) := hd
                clear hd
                go_wp2_with fail
                refine HD.out.mono ?_
                rintro e3 w3 ⟨rfl, RR, S4, q1, q2⟩
                have SC : Aside (SWK enc k w0 blk off (X ++ LL ++ RR ++ Y).toArray w3 ∧ SortedL (ltOf cf) RR ∧ Stab (ltOf cf) (U2 ++ V2) RR) := ⟨StCh.cong S4 (by simp [List.append_assoc]), q1, q2⟩
                clear S4 q1 q2 HD
                go_wp2
                all_goals
                  go_end0
                  have mf := merge_step HO.out U1 U2 V1 V2 LL RR (by rw [← HQ.out.1]; exact HSU.out) (by rw [← HQ.out.2.1]; exact HSV.out) HB1.out HB2.out SB.out.2.1 SC.out.2.1 SB.out.2.2.1 SC.out.2.2
                  exact ⟨rfl, LL ++ RR, by have := SC.out.1; exact StCh.cong this (by simp [List.append_assoc]), mf.1, by rw [HQ.out.1, HQ.out.2.1]; exact mf.2⟩
            · have _tk : True := trivial
              by_cases q2 : m < e
              · have _tk : True := trivial
                have c1 : (s : Int) < (m : Int) := by omega
                have c2 : (m : Int) < (e : Int) := by omega
                have c3 : ¬ ((a : Int) < (s : Int)) := by omega
                have c4 : (s : Int) < (mid : Int) := by omega
                have c5 : (mid : Int) < (e : Int) := by omega
                have c6 : ¬ ((e : Int) < (b : Int)) := by omega
                have hr := StCh.rotate L enc g cb blk off cap s m e sz (X ++ U1) U2 V1 (V2 ++ Y) d0 w0 wr R (by have q := HQ.out; simp; omega) (by have q := HQ.out; simp; omega) (by have q := HQ.out; simp; omega) (by have q := HQ.out; omega) (by have q := HQ.out; omega) (by have q := HQ.out; simp; omega) HE.out.2 hbig (by have := S1.out; rw [HL.out, HQ.out.1, HQ.out.2.1] at this; exact StCh.cong this (by simp [List.append_assoc]))
                have HR : Hid (type_of% hr) := hr
                clear hr
                go_wp2_with fail
                refine HR.out.mono ?_
                rintro e1 w1 ⟨rfl, S2⟩
                have SA : Aside (SWK enc k w0 blk off (X ++ (U1 ++ V1) ++ (U2 ++ V2) ++ Y).toArray w1) := StCh.cong S2 (by simp [List.append_assoc])
                clear S2 HR
                obtain ⟨LL, hLL⟩ : ∃ LL, LL = U1 ++ V1 := ⟨_, rfl⟩
                have SB : Aside (SWK enc k w0 blk off (X ++ LL ++ (U2 ++ V2) ++ Y).toArray w1 ∧ SortedL (ltOf cf) LL ∧ Stab (ltOf cf) (U1 ++ V1) LL ∧ LL.length = U1.length + V1.length) := by
                  rw [hLL]
                  have hz : U1 = [] := List.eq_nil_of_length_eq_zero (by have q := HQ.out; omega)
                  refine ⟨SA.out, ?_, Stab.refl _, by simp⟩
                  rw [hz]; simpa using HV1.out
                clear hLL
                obtain ⟨RR, hRR⟩ : ∃ RR, RR = U2 ++ V2 := ⟨_, rfl⟩
                have SC : Aside (SWK enc k w0 blk off (X ++ LL ++ RR ++ Y).toArray w1 ∧ SortedL (ltOf cf) RR ∧ Stab (ltOf cf) (U2 ++ V2) RR) := by
                  rw [hRR]
                  have hz : V2 = [] := List.eq_nil_of_length_eq_zero (by have q := HQ.out; omega)
                  refine ⟨SB.out.1, ?_, Stab.refl _⟩
                  rw [hz]; simpa using HU2.out
                clear hRR
                go_wp2
                all_goals
                  go_end0
                  have mf := merge_step HO.out U1 U2 V1 V2 LL RR (by rw [← HQ.out.1]; exact HSU.out) (by rw [← HQ.out.2.1]; exact HSV.out) HB1.out HB2.out SB.out.2.1 SC.out.2.1 SB.out.2.2.1 SC.out.2.2
                  exact ⟨rfl, LL ++ RR, by have := SC.out.1; exact StCh.cong this (by simp [List.append_assoc]), mf.1, by rw [HQ.out.1, HQ.out.2.1]; exact mf.2⟩
              · have _tk : True := trivial
                have c1 : (s : Int) < (m : Int) := by omega
                have c2 : ¬ ((m : Int) < (e : Int)) := by omega
                have c3 : ¬ ((a : Int) < (s : Int)) := by omega
                have c4 : ¬ ((s : Int) < (mid : Int)) := by omega
                have c5 : (mid : Int) < (e : Int) := by omega
                have c6 : ¬ ((e : Int) < (b : Int)) := by omega
                have SA : Aside (SWK enc k w0 blk off (X ++ (U1 ++ V1) ++ (U2 ++ V2) ++ Y).toArray wr) := by
                  have hz : V1 = [] := List.eq_nil_of_length_eq_zero (by have q := HQ.out; omega)
                  have := S1.out; rw [HL.out, HQ.out.1, HQ.out.2.1, hz] at this; rw [hz]; exact StCh.cong this (by simp [List.append_assoc])
                obtain ⟨LL, hLL⟩ : ∃ LL, LL = U1 ++ V1 := ⟨_, rfl⟩
                have SB : Aside (SWK enc k w0 blk off (X ++ LL ++ (U2 ++ V2) ++ Y).toArray wr ∧ SortedL (ltOf cf) LL ∧ Stab (ltOf cf) (U1 ++ V1) LL ∧ LL.length = U1.length + V1.length) := by
                  rw [hLL]
                  have hz : U1 = [] := List.eq_nil_of_length_eq_zero (by have q := HQ.out; omega)
                  refine ⟨SA.out, ?_, Stab.refl _, by simp⟩
                  rw [hz]; simpa using HV1.out
                clear hLL
                obtain ⟨RR, hRR⟩ : ∃ RR, RR = U2 ++ V2 := ⟨_, rfl⟩
                have SC : Aside (SWK enc k w0 blk off (X ++ LL ++ RR ++ Y).toArray wr ∧ SortedL (ltOf cf) RR ∧ Stab (ltOf cf) (U2 ++ V2) RR) := by
                  rw [hRR]
                  have hz : V2 = [] := List.eq_nil_of_length_eq_zero (by have q := HQ.out; omega)
                  refine ⟨SB.out.1, ?_, Stab.refl _⟩
                  rw [hz]; simpa using HU2.out
                clear hRR
                go_wp2
                all_goals
                  go_end0
                  have mf := merge_step HO.out U1 U2 V1 V2 LL RR (by rw [← HQ.out.1]; exact HSU.out) (by rw [← HQ.out.2.1]; exact HSV.out) HB1.out HB2.out SB.out.2.1 SC.out.2.1 SB.out.2.2.1 SC.out.2.2
                  exact ⟨rfl, LL ++ RR, by have := SC.out.1; exact StCh.cong this (by simp [List.append_assoc]), mf.1, by rw [HQ.out.1, HQ.out.2.1]; exact mf.2⟩
        · have _tk : True := trivial
          by_cases q3 : a < s
          · have _tk : True := trivial
            by_cases q6 : e < b
            · have _tk : True := trivial
              by_cases q2 : m < e
              · have _tk : True := trivial
                have c1 : ¬ ((s : Int) < (m : Int)) := by omega
                have c2 : (m : Int) < (e : Int) := by omega
                have c3 : (a : Int) < (s : Int) := by omega
                have c4 : (s : Int) < (mid : Int) := by omega
                have c5 : ¬ ((mid : Int) < (e : Int)) := by omega
                have c6 : (e : Int) < (b : Int) := by omega
                have SA : Aside (SWK enc k w0 blk off (X ++ (U1 ++ V1) ++ (U2 ++ V2) ++ Y).toArray wr) := by
                  have hz : U2 = [] := List.eq_nil_of_length_eq_zero (by have q := HQ.out; omega)
                  have := S1.out; rw [HL.out, HQ.out.1, HQ.out.2.1, hz] at this; rw [hz]; exact StCh.cong this (by simp [List.append_assoc])
                have hb := IH2.out (mid - a) (by omega) a s mid X U1 V1 ((U2 ++ V2) ++ Y) wr (by omega) (by have q := HQ.out; omega) (by have q := HQ.out; omega) (by have q := HQ.out; omega) (by have q := HQ.out; omega) (by have q := HQ.out; omega) (by have q := HQ.out; simp; omega) HU1.out HV1.out (by have := SA.out; exact StCh.cong this (by simp [List.append_assoc]))
                have HB : Hid (type_of% hb) := hb
                clear hb
                go_wp2_with fail
                refine HB.out.mono ?_
                rintro e2 w2 ⟨rfl, LL, S3, q1, q2⟩
                have hLl := (q2.length HO.out).symm
                have SB : Aside (SWK enc k w0 blk off (X ++ LL ++ (U2 ++ V2) ++ Y).toArray w2 ∧ SortedL (ltOf cf) LL ∧ Stab (ltOf cf) (U1 ++ V1) LL ∧ LL.length = U1.length + V1.length) := ⟨StCh.cong S3 (by simp [List.append_assoc]), q1, q2, by rw [hLl]; simp⟩
                clear S3 q1 q2 hLl HB SA
                obtain ⟨RR, hRR⟩ : ∃ RR, RR = U2 ++ V2 := ⟨_, rfl⟩
                have SC : Aside (SWK enc k w0 blk off (X ++ LL ++ RR ++ Y).toArray w2 ∧ SortedL (ltOf cf) RR ∧ Stab (ltOf cf) (U2 ++ V2) RR) := by
                  rw [hRR]
                  have hz : U2 = [] := List.eq_nil_of_length_eq_zero (by have q := HQ.out; omega)
                  refine ⟨SB.out.1, ?_, Stab.refl _⟩
                  rw [hz]; simpa using HV2.out
                clear hRR
                go_wp2
                all_goals
                  go_end0
                  have mf := merge_step HO.out U1 U2 V1 V2 LL RR (by rw [← HQ.out.1]; exact HSU.out) (by rw [← HQ.out.2.1]; exact HSV.out) HB1.out HB2.out SB.out.2.1 SC.out.2.1 SB.out.2.2.1 SC.out.2.2
                  exact ⟨rfl, LL ++ RR, by have := SC.out.1; exact StCh.cong this (by simp [List.append_assoc]), mf.1, by rw [HQ.out.1, HQ.out.2.1]; exact mf.2⟩
              · have _tk : True := trivial
                have c1 : ¬ ((s : Int) < (m : Int)) := by omega
                have c2 : ¬ ((m : Int) < (e : Int)) := by omega
                have c3 : (a : Int) < (s : Int) := by omega
                have c4 : ¬ ((s : Int) < (mid : Int)) := by omega
                have c5 : ¬ ((mid : Int) < (e : Int)) := by omega
                have c6 : (e : Int) < (b : Int) := by omega
                have SA : Aside (SWK enc k w0 blk off (X ++ (U1 ++ V1) ++ (U2 ++ V2) ++ Y).toArray wr) := by
                  have hz : U2 = [] := List.eq_nil_of_length_eq_zero (by have q := HQ.out; omega)
                  have := S1.out; rw [HL.out, HQ.out.1, HQ.out.2.1, hz] at this; rw [hz]; exact StCh.cong this (by simp [List.append_assoc])
                obtain ⟨LL, hLL⟩ : ∃ LL, LL = U1 ++ V1 := ⟨_, rfl⟩
                have SB : Aside (SWK enc k w0 blk off (X ++ LL ++ (U2 ++ V2) ++ Y).toArray wr ∧ SortedL (ltOf cf) LL ∧ Stab (ltOf cf) (U1 ++ V1) LL ∧ LL.length = U1.length + V1.length) := by
                  rw [hLL]
                  have hz : V1 = [] := List.eq_nil_of_length_eq_zero (by have q := HQ.out; omega)
                  refine ⟨SA.out, ?_, Stab.refl _, by simp⟩
                  rw [hz]; simpa using HU1.out
                clear hLL
                obtain ⟨RR, hRR⟩ : ∃ RR, RR = U2 ++ V2 := ⟨_, rfl⟩
                have SC : Aside (SWK enc k w0 blk off (X ++ LL ++ RR ++ Y).toArray wr ∧ SortedL (ltOf cf) RR ∧ Stab (ltOf cf) (U2 ++ V2) RR) := by
                  rw [hRR]
                  have hz : U2 = [] := List.eq_nil_of_length_eq_zero (by have q := HQ.out; omega)
                  refine ⟨SB.out.1, ?_, Stab.refl _⟩
                  rw [hz]; simpa using HV2.out
                clear hRR
                go_wp2
                all_goals
                  go_end0
                  have mf := merge_step HO.out U1 U2 V1 V2 LL RR (by rw [← HQ.out.1]; exact HSU.out) (by rw [← HQ.out.2.1]; exact HSV.out) HB1.out HB2.out SB.out.2.1 SC.out.2.1 SB.out.2.2.1 SC.out.2.2
                  exact ⟨rfl, LL ++ RR, by have := SC.out.1; exact StCh.cong this (by simp [List.append_assoc]), mf.1, by rw [HQ.out.1, HQ.out.2.1]; exact mf.2⟩
            · have _tk : True := trivial
              by_cases q2 : m < e
              · have _tk : True := trivial
                have c1 : ¬ ((s : Int) < (m : Int)) := by omega
                have c2 : (m : Int) < (e : Int) := by omega
                have c3 : (a : Int) < (s : Int) := by omega
                have c4 : (s : Int) < (mid : Int) := by omega
                have c5 : ¬ ((mid : Int) < (e : Int)) := by omega
                have c6 : ¬ ((e : Int) < (b : Int)) := by omega
                have SA : Aside (SWK enc k w0 blk off (X ++ (U1 ++ V1) ++ (U2 ++ V2) ++ Y).toArray wr) := by
                  have hz : U2 = [] := List.eq_nil_of_length_eq_zero (by have q := HQ.out; omega)
                  have := S1.out; rw [HL.out, HQ.out.1, HQ.out.2.1, hz] at this; rw [hz]; exact StCh.cong this (by simp [List.append_assoc])
                have hb := IH2.out (mid - a) (by omega) a s mid X U1 V1 ((U2 ++ V2) ++ Y) wr (by omega) (by have q := HQ.out; omega) (by have q := HQ.out; omega) (by have q := HQ.out; omega) (by have q := HQ.out; omega) (by have q := HQ.out; omega) (by have q := HQ.out; simp; omega) HU1.out HV1.out (by have := SA.out; exact StCh.cong this (by simp [List.append_assoc]))
                have HB : Hid (type_of% hb) := hb
                clear hb
                go_wp2_with fail
                refine HB.out.mono ?_
                rintro e2 w2 ⟨rfl, LL, S3, q1, q2⟩
                have hLl := (q2.length HO.out).symm
                have SB : Aside (SWK enc k w0 blk off (X ++ LL ++ (U2 ++ V2) ++ Y).toArray w2 ∧ SortedL (ltOf cf) LL ∧ Stab (ltOf cf) (U1 ++ V1) LL ∧ LL.length = U1.length + V1.length) := ⟨StCh.cong S3 (by simp [List.append_assoc]), q1, q2, by rw [hLl]; simp⟩
                clear S3 q1 q2 hLl HB SA
                obtain ⟨RR, hRR⟩ : ∃ RR, RR = U2 ++ V2 := ⟨_, rfl⟩
                have SC : Aside (SWK enc k w0 blk off (X ++ LL ++ RR ++ Y).toArray w2 ∧ SortedL (ltOf cf) RR ∧ Stab (ltOf cf) (U2 ++ V2) RR) := by
                  rw [hRR]
                  have hz : U2 = [] := List.eq_nil_of_length_eq_zero (by have q := HQ.out; omega)
                  refine ⟨SB.out.1, ?_, Stab.refl _⟩
                  rw [hz]; simpa using HV2.out
                clear hRR
                go_wp2
                all_goals
                  go_end0
                  have mf := merge_step HO.out U1 U2 V1 V2 LL RR (by rw [← HQ.out.1]; exact HSU.out) (by rw [← HQ.out.2.1]; exact HSV.out) HB1.out HB2.out SB.out.2.1 SC.out.2.1 SB.out.2.2.1 SC.out.2.2
                  exact ⟨rfl, LL ++ RR, by have := SC.out.1; exact StCh.cong this (by simp [List.append_assoc]), mf.1, by rw [HQ.out.1, HQ.out.2.1]; exact mf.2⟩
              · have _tk : True := trivial
                have c1 : ¬ ((s : Int) < (m : Int)) := by omega
                have c2 : ¬ ((m : Int) < (e : Int)) := by omega
                have c3 : (a : Int) < (s : Int) := by omega
                have c4 : ¬ ((s : Int) < (mid : Int)) := by omega
                have c5 : ¬ ((mid : Int) < (e : Int)) := by omega
                have c6 : ¬ ((e : Int) < (b : Int)) := by omega
                have SA : Aside (SWK enc k w0 blk off (X ++ (U1 ++ V1) ++ (U2 ++ V2) ++ Y).toArray wr) := by
                  have hz : U2 = [] := List.eq_nil_of_length_eq_zero (by have q := HQ.out; omega)
                  have := S1.out; rw [HL.out, HQ.out.1, HQ.out.2.1, hz] at this; rw [hz]; exact StCh.cong this (by simp [List.append_assoc])
                obtain ⟨LL, hLL⟩ : ∃ LL, LL = U1 ++ V1 := ⟨_, rfl⟩
                have SB : Aside (SWK enc k w0 blk off (X ++ LL ++ (U2 ++ V2) ++ Y).toArray wr ∧ SortedL (ltOf cf) LL ∧ Stab (ltOf cf) (U1 ++ V1) LL ∧ LL.length = U1.length + V1.length) := by
                  rw [hLL]
                  have hz : V1 = [] := List.eq_nil_of_length_eq_zero (by have q := HQ.out; omega)
                  refine ⟨SA.out, ?_, Stab.refl _, by simp⟩
                  rw [hz]; simpa using HU1.out
                clear hLL
                obtain ⟨RR, hRR⟩ : ∃ RR, RR = U2 ++ V2 := ⟨_, rfl⟩
                have SC : Aside (SWK enc k w0 blk off (X ++ LL ++ RR ++ Y).toArray wr ∧ SortedL (ltOf cf) RR ∧ Stab (ltOf cf) (U2 ++ V2) RR) := by
                  rw [hRR]
                  have hz : U2 = [] := List.eq_nil_of_length_eq_zero (by have q := HQ.out; omega)
                  refine ⟨SB.out.1, ?_, Stab.refl _⟩
                  rw [hz]; simpa using HV2.out
                clear hRR
                go_wp2
                all_goals
                  go_end0
                  have mf := merge_step HO.out U1 U2 V1 V2 LL RR (by rw [← HQ.out.1]; exact HSU.out) (by rw [← HQ.out.2.1]; exact HSV.out) HB1.out HB2.out SB.out.2.1 SC.out.2.1 SB.out.2.2.1 SC.out.2.2
                  exact ⟨rfl, LL ++ RR, by have := SC.out.1; exact StCh.cong this (by simp [List.append_assoc]), mf.1, by rw [HQ.out.1, HQ.out.2.1]; exact mf.2⟩
          · have _tk : True := trivial
            by_cases q6 : e < b
            · have _tk : True := trivial
              by_cases q2 : m < e
              · have _tk : True := trivial
                have c1 : ¬ ((s : Int) < (m : Int)) := by omega
                have c2 : (m : Int) < (e : Int) := by omega
                have c3 : ¬ ((a : Int) < (s : Int)) := by omega
                have c4 : (s : Int) < (mid : Int) := by omega
                have c5 : ¬ ((mid : Int) < (e : Int)) := by omega
                have c6 : (e : Int) < (b : Int) := by omega
                have SA : Aside (SWK enc k w0 blk off (X ++ (U1 ++ V1) ++ (U2 ++ V2) ++ Y).toArray wr) := by
                  have hz : U2 = [] := List.eq_nil_of_length_eq_zero (by have q := HQ.out; omega)
                  have := S1.out; rw [HL.out, HQ.out.1, HQ.out.2.1, hz] at this; rw [hz]; exact StCh.cong this (by simp [List.append_assoc])
                obtain ⟨LL, hLL⟩ : ∃ LL, LL = U1 ++ V1 := ⟨_, rfl⟩
                have SB : Aside (SWK enc k w0 blk off (X ++ LL ++ (U2 ++ V2) ++ Y).toArray wr ∧ SortedL (ltOf cf) LL ∧ Stab (ltOf cf) (U1 ++ V1) LL ∧ LL.length = U1.length + V1.length) := by
                  rw [hLL]
                  have hz : U1 = [] := List.eq_nil_of_length_eq_zero (by have q := HQ.out; omega)
                  refine ⟨SA.out, ?_, Stab.refl _, by simp⟩
                  rw [hz]; simpa using HV1.out
                clear hLL
                obtain ⟨RR, hRR⟩ : ∃ RR, RR = U2 ++ V2 := ⟨_, rfl⟩
                have SC : Aside (SWK enc k w0 blk off (X ++ LL ++ RR ++ Y).toArray wr ∧ SortedL (ltOf cf) RR ∧ Stab (ltOf cf) (U2 ++ V2) RR) := by
                  rw [hRR]
                  have hz : U2 = [] := List.eq_nil_of_length_eq_zero (by have q := HQ.out; omega)
                  refine ⟨SB.out.1, ?_, Stab.refl _⟩
                  rw [hz]; simpa using HV2.out
                clear hRR
                go_wp2
                all_goals
                  go_end0
                  have mf := merge_step HO.out U1 U2 V1 V2 LL RR (by rw [← HQ.out.1]; exact HSU.out) (by rw [← HQ.out.2.1]; exact HSV.out) HB1.out HB2.out SB.out.2.1 SC.out.2.1 SB.out.2.2.1 SC.out.2.2
                  exact ⟨rfl, LL ++ RR, by have := SC.out.1; exact StCh.cong this (by simp [List.append_assoc]), mf.1, by rw [HQ.out.1, HQ.out.2.1]; exact mf.2⟩
              · have _tk : True := trivial
                have c1 : ¬ ((s : Int) < (m : Int)) := by omega
                have c2 : ¬ ((m : Int) < (e : Int)) := by omega
                have c3 : ¬ ((a : Int) < (s : Int)) := by omega
                have c4 : ¬ ((s : Int) < (mid : Int)) := by omega
                have c5 : ¬ ((mid : Int) < (e : Int)) := by omega
                have c6 : (e : Int) < (b : Int) := by omega
                have SA : Aside (SWK enc k w0 blk off (X ++ (U1 ++ V1) ++ (U2 ++ V2) ++ Y).toArray wr) := by
                  have hz : U2 = [] := List.eq_nil_of_length_eq_zero (by have q := HQ.out; omega)
                  have := S1.out; rw [HL.out, HQ.out.1, HQ.out.2.1, hz] at this; rw [hz]; exact StCh.cong this (by simp [List.append_assoc])
                obtain ⟨LL, hLL⟩ : ∃ LL, LL = U1 ++ V1 := ⟨_, rfl⟩
                have SB : Aside (SWK enc k w0 blk off (X ++ LL ++ (U2 ++ V2) ++ Y).toArray wr ∧ SortedL (ltOf cf) LL ∧ Stab (ltOf cf) (U1 ++ V1) LL ∧ LL.length = U1.length + V1.length) := by
                  rw [hLL]
                  have hz : U1 = [] := List.eq_nil_of_length_eq_zero (by have q := HQ.out; omega)
                  refine ⟨SA.out, ?_, Stab.refl _, by simp⟩
                  rw [hz]; simpa using HV1.out
                clear hLL
                obtain ⟨RR, hRR⟩ : ∃ RR, RR = U2 ++ V2 := ⟨_, rfl⟩
                have SC : Aside (SWK enc k w0 blk off (X ++ LL ++ RR ++ Y).toArray wr ∧ SortedL (ltOf cf) RR ∧ Stab (ltOf cf) (U2 ++ V2) RR) := by
                  rw [hRR]
                  have hz : U2 = [] := List.eq_nil_of_length_eq_zero (by have q := HQ.out; omega)
                  refine ⟨SB.out.1, ?_, Stab.refl _⟩
                  rw [hz]; simpa using HV2.out
                clear hRR
                go_wp2
                all_goals
                  go_end0
                  have mf := merge_step HO.out U1 U2 V1 V2 LL RR (by rw [← HQ.out.1]; exact HSU.out) (by rw [← HQ.out.2.1]; exact HSV.out) HB1.out HB2.out SB.out.2.1 SC.out.2.1 SB.out.2.2.1 SC.out.2.2
                  exact ⟨rfl, LL ++ RR, by have := SC.out.1; exact StCh.cong this (by simp [List.append_assoc]), mf.1, by rw [HQ.out.1, HQ.out.2.1]; exact mf.2⟩
            · have _tk : True := trivial
              by_cases q2 : m < e
              · have _tk : True := trivial
                have c1 : ¬ ((s : Int) < (m : Int)) := by omega
                have c2 : (m : Int) < (e : Int) := by omega
                have c3 : ¬ ((a : Int) < (s : Int)) := by omega
                have c4 : (s : Int) < (mid : Int) := by omega
                have c5 : ¬ ((mid : Int) < (e : Int)) := by omega
                have c6 : ¬ ((e : Int) < (b : Int)) := by omega
                have SA : Aside (SWK enc k w0 blk off (X ++ (U1 ++ V1) ++ (U2 ++ V2) ++ Y).toArray wr) := by
                  have hz : U2 = [] := List.eq_nil_of_length_eq_zero (by have q := HQ.out; omega)
                  have := S1.out; rw [HL.out, HQ.out.1, HQ.out.2.1, hz] at this; rw [hz]; exact StCh.cong this (by simp [List.append_assoc])
                obtain ⟨LL, hLL⟩ : ∃ LL, LL = U1 ++ V1 := ⟨_, rfl⟩
                have SB : Aside (SWK enc k w0 blk off (X ++ LL ++ (U2 ++ V2) ++ Y).toArray wr ∧ SortedL (ltOf cf) LL ∧ Stab (ltOf cf) (U1 ++ V1) LL ∧ LL.length = U1.length + V1.length) := by
                  rw [hLL]
                  have hz : U1 = [] := List.eq_nil_of_length_eq_zero (by have q := HQ.out; omega)
                  refine ⟨SA.out, ?_, Stab.refl _, by simp⟩
                  rw [hz]; simpa using HV1.out
                clear hLL
                obtain ⟨RR, hRR⟩ : ∃ RR, RR = U2 ++ V2 := ⟨_, rfl⟩
                have SC : Aside (SWK enc k w0 blk off (X ++ LL ++ RR ++ Y).toArray wr ∧ SortedL (ltOf cf) RR ∧ Stab (ltOf cf) (U2 ++ V2) RR) := by
                  rw [hRR]
                  have hz : U2 = [] := List.eq_nil_of_length_eq_zero (by have q := HQ.out; omega)
                  refine ⟨SB.out.1, ?_, Stab.refl _⟩
                  rw [hz]; simpa using HV2.out
                clear hRR
                go_wp2
                all_goals
                  go_end0
                  have mf := merge_step HO.out U1 U2 V1 V2 LL RR (by rw [← HQ.out.1]; exact HSU.out) (by rw [← HQ.out.2.1]; exact HSV.out) HB1.out HB2.out SB.out.2.1 SC.out.2.1 SB.out.2.2.1 SC.out.2.2
                  exact ⟨rfl, LL ++ RR, by have := SC.out.1; exact StCh.cong this (by simp [List.append_assoc]), mf.1, by rw [HQ.out.1, HQ.out.2.1]; exact mf.2⟩
              · have _tk : True := trivial
                have c1 : ¬ ((s : Int) < (m : Int)) := by omega
                have c2 : ¬ ((m : Int) < (e : Int)) := by omega
                have c3 : ¬ ((a : Int) < (s : Int)) := by omega
                have c4 : ¬ ((s : Int) < (mid : Int)) := by omega
                have c5 : ¬ ((mid : Int) < (e : Int)) := by omega
                have c6 : ¬ ((e : Int) < (b : Int)) := by omega
                have SA : Aside (SWK enc k w0 blk off (X ++ (U1 ++ V1) ++ (U2 ++ V2) ++ Y).toArray wr) := by
                  have hz : U2 = [] := List.eq_nil_of_length_eq_zero (by have q := HQ.out; omega)
                  have := S1.out; rw [HL.out, HQ.out.1, HQ.out.2.1, hz] at this; rw [hz]; exact StCh.cong this (by simp [List.append_assoc])
                obtain ⟨LL, hLL⟩ : ∃ LL, LL = U1 ++ V1 := ⟨_, rfl⟩
                have SB : Aside (SWK enc k w0 blk off (X ++ LL ++ (U2 ++ V2) ++ Y).toArray wr ∧ SortedL (ltOf cf) LL ∧ Stab (ltOf cf) (U1 ++ V1) LL ∧ LL.length = U1.length + V1.length) := by
                  rw [hLL]
                  have hz : U1 = [] := List.eq_nil_of_length_eq_zero (by have q := HQ.out; omega)
                  refine ⟨SA.out, ?_, Stab.refl _, by simp⟩
                  rw [hz]; simpa using HV1.out
                clear hLL
                obtain ⟨RR, hRR⟩ : ∃ RR, RR = U2 ++ V2 := ⟨_, rfl⟩
                have SC : Aside (SWK enc k w0 blk off (X ++ LL ++ RR ++ Y).toArray wr ∧ SortedL (ltOf cf) RR ∧ Stab (ltOf cf) (U2 ++ V2) RR) := by
                  rw [hRR]
                  have hz : U2 = [] := List.eq_nil_of_length_eq_zero (by have q := HQ.out; omega)
                  refine ⟨SB.out.1, ?_, Stab.refl _⟩
                  rw [hz]; simpa using HV2.out
                clear hRR
                go_wp2
                all_goals
                  go_end0
                  have mf := merge_step HO.out U1 U2 V1 V2 LL RR (by rw [← HQ.out.1]; exact HSU.out) (by rw [← HQ.out.2.1]; exact HSV.out) HB1.out HB2.out SB.out.2.1 SC.out.2.1 SB.out.2.2.1 SC.out.2.2
                  exact ⟨rfl, LL ++ RR, by have := SC.out.1; exact StCh.cong this (by simp [List.append_assoc]), mf.1, by rw [HQ.out.1, HQ.out.2.1]; exact mf.2⟩
end Go.Proofs.Ytgdmdhhihoifkaa

namespace Go.Proofs.Ytgdmdhhihoifkaa
open Go.Shelf Go.RowKit Go.Lib Go.Sort
variable {P : Program} {ρ : Ren} {α : Type} [Inhabited α]

theorem StCh.ins {k : Nat} (LI : SlLaysF0.n20 P ρ) (aE : ∀ w, (isAgg (ρ.t 24)).run P w = .ok true w) (zE : ∀ w, (Go.sizeOf (ρ.t 24)).run P w = .ok k w) (enc : α → List Value) (cf : α → α → Int) (hO : SWO (ltOf cf)) (g : Nat) (cb : Array Value) (blk off cap sz : Nat) (d0 : Array α) (w0 : World) (R : RowK enc k w0 blk off d0)
    (eg : ∀ args w, (callFunc g args).run P w = .ok (.enter g args) w) (hcmp : CmpLays P g cb enc k cf blk off sz w0) (hs : d0.size = sz) (hbig : sz < 4611686018427387904)
    (a b : Nat) (dk : Array α) (w : World) (hdk : dk.size = sz) (S : SWK enc k w0 blk off dk w) (hab : a ≤ b) (hb : b ≤ sz) :
    Calls P (ρ.f 20) #[.slice (some ⟨blk, off, none⟩) sz cap, .int .i64 a, .int .i64 b, .func (.func g) #[] cb] w fun e w' => e = .returned (.tuple #[]) ∧ SWK enc k w0 blk off (insertionSort (ltOf cf) dk a b) w' := by
  subst hdk
  refine (AnyQ.insertionSortCmpFunc LI k aE zE enc R.hk R.h1 cf g cb blk off cap a b dk w eg ?_ (S.holds R.hblk R.hH hs.symm) (S.lt R.hblk) hab hb hbig).mono ?_
  · intro m os dk' hs' x y
    obtain ⟨n, os0, hw⟩ := S.on R.hblk m dk' os hs'
    rw [hw]; exact hcmp n os0 dk' hs' x y
  · rintro e w' ⟨rfl, n, os, rfl⟩
    exact ⟨rfl, S.on R.hblk n _ os (insertionSort_holds (lt := ltOf cf) hO dk a b hab hb).1.1⟩

/-- What insertionSortCmpFunc does, from world of the sort's to world of the sort's. -/
def StCh.Ins (P : Program) (enc : α → List Value) (k : Nat) (cf : α → α → Int) (g : Nat) (cb : Array Value) (blk off cap sz : Nat) (w0 : World) : Prop :=
  ∀ (a b : Nat) (dk : Array α) (w : World), dk.size = sz → SWK enc k w0 blk off dk w → a ≤ b → b ≤ sz →
    Calls P 52 #[.slice (some ⟨blk, off, none⟩) sz cap, .int .i64 a, .int .i64 b, .func (.func g) #[] cb] w fun e w' => e = .returned (.tuple #[]) ∧ SWK enc k w0 blk off (insertionSort (ltOf cf) dk a b) w'

set_option maxHeartbeats 4000000 in
set_option maxRecDepth 1000000 in
/-- stableCmpFunc: the row sorted, equals in their order. -/
theorem StCh.stable {k : Nat} (L : StChF P k) (enc : α → List Value) (cf : α → α → Int) (hO : SWO (ltOf cf)) (g : Nat) (cb : Array Value) (blk off cap sz : Nat) (d0 : Array α) (w0 : World) (R : RowK enc k w0 blk off d0)
    (eg : ∀ args w, (callFunc g args).run P w = .ok (.enter g args) w) (hcmp : CmpLays P g cb enc k cf blk off sz w0) (hs : d0.size = sz) (hbig : sz < 4611686018427387904) (hins : StCh.Ins P enc k cf g cb blk off cap sz w0)
    (l0 : List α) (w : World) (hl : l0.length = sz) (S : SWK enc k w0 blk off l0.toArray w) :
    Calls P 42 #[.slice (some ⟨blk, off, none⟩) sz cap, .int .i64 sz, .func (.func g) #[] cb] w fun e w' => e = .returned (.tuple #[]) ∧ ∃ W, SWK enc k w0 blk off W.toArray w' ∧ SortedL (ltOf cf) W ∧ Stab (ltOf cf) l0 W := by
  have mixed := L.mixed; have t3 := L.t3; have a3 := L.a3; have z3 := L.z3; have v3 := L.v3; have t4 := L.t4; have a4 := L.a4; have z4 := L.z4; have v4 := L.v4; have t22 := L.t22; have a22 := L.a22; have z22 := L.z22; have v22 := L.v22; have t25 := L.t25; have a25 := L.a25; have z25 := L.z25; have v25 := L.v25; have aE := L.aE; have zE := L.zE
  have e52 : ∀ args w, (callFunc 52 args).run P w = .ok (.enter 52 args) w := enters_of L.fins (by kernel_rfl) rfl
  have e53 : ∀ args w, (callFunc 53 args).run P w = .ok (.enter 53 args) w := enters_of L.fsym (by kernel_rfl) rfl
  have hm := StCh.symMerge L enc cf hO g cb blk off cap sz d0 w0 R eg hcmp hs hbig
  have HM : Hid (type_of% hm) := hm
  have HI : Hid (StCh.Ins P enc k cf g cb blk off cap sz w0) := hins
  have HO : Hid (SWO (ltOf cf)) := hO
  have HZ : Hid (l0.length = sz) := hl
  have S0 : Aside (SWK enc k w0 blk off l0.toArray w) := S
  clear hm hins hO hl S hcmp
  go_enter L.fstab, Try.ntmps42
  go_wp2
  go_loopg [7, 8] sz (fun gk s7 s8 wr => ∃ (a : Nat) (Pf T : List α), s7 = .int .i64 a ∧ s8 = .int .i64 ((a : Int) + 20) ∧ a ≤ sz ∧ sz - a ≤ gk ∧ Hid (∃ p, a = p * 20 ∧ Pf.length = a ∧ Pf.length + T.length = sz ∧ Blocks (ltOf cf) 20 Pf ∧ Stab (ltOf cf) l0 (Pf ++ T)) ∧ Aside (SWK enc k w0 blk off (Pf ++ T).toArray wr))
  case atStart => exact ⟨0, [], l0, rfl, by first | rfl | go_num | simp, Nat.zero_le _, Nat.le_refl _, ⟨0, rfl, rfl, by simpa using HZ.out, blocks_nil _, Stab.refl _⟩, S0⟩
  case round =>
    clear S0
    obtain ⟨a, Pf, T, rfl, rfl, ha, hg, HB, S1⟩ := hrel
    by_cases hlt : a + 20 ≤ sz
    · have hltz : (a : Int) + 20 ≤ (sz : Int) := by omega
      obtain ⟨U, T2, hT, hU⟩ : ∃ U T2, T = U ++ T2 ∧ U.length = 20 := ⟨T.take 20, T.drop 20, (List.take_append_drop _ _).symm, by obtain ⟨p, h1, h2, h3, _⟩ := HB.out; simp; omega⟩
      subst hT
      obtain ⟨W, hW, sW, tW⟩ := insertionSort_split HO.out Pf U T2 a (a + 20) (by obtain ⟨p, h1, h2, _⟩ := HB.out; omega) (by obtain ⟨p, h1, h2, _⟩ := HB.out; omega)
      have hc := HI.out a (a + 20) (Pf ++ U ++ T2).toArray wr (by obtain ⟨p, h1, h2, h3, _⟩ := HB.out; simp at h3 ⊢; omega) (StCh.cong S1.out (by simp)) (by omega) hlt
      rw [hW, show ((a + 20 : Nat) : Int) = (a : Int) + 20 from by omega] at hc
      have HC : Hid (type_of% hc) := hc
      have HB2 : Hid (∃ p, a + 20 = p * 20 ∧ (Pf ++ W).length = a + 20 ∧ (Pf ++ W).length + T2.length = sz ∧ Blocks (ltOf cf) 20 (Pf ++ W) ∧ Stab (ltOf cf) l0 ((Pf ++ W) ++ T2)) := by
        obtain ⟨p, h1, h2, h3, h4, h5⟩ := HB.out
        have hWl := tW.length HO.out
        refine ⟨p + 1, by omega, by simp; omega, by simp at h3 ⊢; omega, h4.snoc (p := p) (by omega) sW (by omega), h5.trans ?_⟩
        rw [List.append_assoc]
        exact (Stab.refl Pf).append (tW.append (Stab.refl T2))
      clear hc hW sW tW hU HB S1
      go_wp2_with (go_at_fn 52; refine HC.out.mono ?_; rintro e w' ⟨rfl, S2⟩; have S3 : Aside _ := S2; clear S2)
      go_roundg (sz - (a + 20))
      case measure => omega
      case rel => exact ⟨a + 20, Pf ++ W, T2, by first | rfl | go_num, by first | rfl | go_num, hlt, Nat.le_refl _, HB2, S3⟩
    · have hltz : ¬ ((a : Int) + 20 ≤ (sz : Int)) := by omega
      obtain ⟨W, hW, sW, tW⟩ := insertionSort_split HO.out Pf T [] a sz (by obtain ⟨p, h1, h2, _⟩ := HB.out; omega) (by obtain ⟨p, h1, h2, h3, _⟩ := HB.out; omega)
      have hc := HI.out a sz (Pf ++ T ++ []).toArray wr (by obtain ⟨p, h1, h2, h3, _⟩ := HB.out; simp; omega) (StCh.cong S1.out (by simp)) ha (Nat.le_refl _)
      rw [hW] at hc
      have HC : Hid (type_of% hc) := hc
      have HD : Hid ((Pf ++ W).length = sz ∧ Blocks (ltOf cf) 20 (Pf ++ W) ∧ Stab (ltOf cf) l0 (Pf ++ W)) := by
        obtain ⟨p, h1, h2, h3, h4, h5⟩ := HB.out
        have hWl := tW.length HO.out
        exact ⟨by simp; omega, h4.snoc (p := p) (by omega) sW (by omega), h5.trans ((Stab.refl Pf).append tW)⟩
      clear hc hW sW tW HB S1
      go_wp2_with (go_at_fn 52; refine HC.out.mono ?_; rintro e w' ⟨rfl, S2⟩; have S3 : Aside _ := S2; clear S2)
      clear HC
      go_loopg [6] sz (fun gk s6 wr => ∃ (bs : Nat) (l : List α), s6 = .int .i64 bs ∧ 1 ≤ bs ∧ sz - bs ≤ gk ∧ Hid (l.length = sz ∧ Blocks (ltOf cf) bs l ∧ Stab (ltOf cf) l0 l) ∧ Aside (SWK enc k w0 blk off l.toArray wr))
      case atStart => exact ⟨20, Pf ++ W, rfl, by omega, by omega, HD, StCh.cong S3.out (by simp)⟩
      case round =>
        clear S3 HD
        obtain ⟨bs, l, rfl, hbs, hg2, HL2, S4⟩ := hrel
        by_cases hlt2 : bs < sz
        · have hlt2z : (bs : Int) < (sz : Int) := by omega
          go_wp2
          go_loopg [7, 8] sz (fun gk s7 s8 wq => ∃ (a : Nat) (Pf T : List α), s7 = .int .i64 a ∧ s8 = .int .i64 ((a : Int) + 2 * (bs : Int)) ∧ a ≤ sz ∧ sz - a ≤ gk ∧ Hid (∃ p, a = p * (2 * bs) ∧ Pf.length = a ∧ Pf.length + T.length = sz ∧ Blocks (ltOf cf) (2 * bs) Pf ∧ Blocks (ltOf cf) bs T ∧ Stab (ltOf cf) l0 (Pf ++ T)) ∧ Aside (SWK enc k w0 blk off (Pf ++ T).toArray wq))
          case atStart => exact ⟨0, [], l, rfl, by first | rfl | go_num | simp, Nat.zero_le _, Nat.le_refl _, ⟨0, by simp, rfl, by simpa using HL2.out.1, blocks_nil _, HL2.out.2.1, HL2.out.2.2⟩, S4⟩
          case round =>
            clear S4 HL2
            obtain ⟨a2, Pf2, T, rfl, rfl, ha2, hg3, HB, S5⟩ := hrel
            by_cases hlt3 : a2 + 2 * bs ≤ sz
            · have hlt3z : (a2 : Int) + 2 * (bs : Int) ≤ (sz : Int) := by omega
              obtain ⟨U, V, T2, hT, hU, hV⟩ : ∃ U V T2, T = U ++ (V ++ T2) ∧ U.length = bs ∧ V.length = bs := by
                refine ⟨T.take bs, (T.drop bs).take bs, (T.drop bs).drop bs, by rw [List.take_append_drop, List.take_append_drop], ?_, ?_⟩ <;>
                · obtain ⟨p, h1, h2, h3, _⟩ := HB.out; simp; omega
              subst hT
              have sU : SortedL (ltOf cf) U := by obtain ⟨p, _, _, _, _, h, _⟩ := HB.out; exact h.head hU
              have bV : Blocks (ltOf cf) bs (V ++ T2) := by obtain ⟨p, _, _, _, _, h, _⟩ := HB.out; exact h.tail hU
              have sV := bV.head hV
              have bT := bV.tail hV
              have hc := HM.out (2 * bs) a2 (a2 + bs) (a2 + 2 * bs) Pf2 U V T2 wr (by omega) (by obtain ⟨p, h1, h2, _⟩ := HB.out; omega) (by obtain ⟨p, h1, h2, _⟩ := HB.out; omega) (by obtain ⟨p, h1, h2, _⟩ := HB.out; omega) (by omega) (by omega) (by obtain ⟨p, h1, h2, h3, _⟩ := HB.out; simp at h3; omega) sU sV (StCh.cong S5.out (by simp))
              rw [show ((a2 + bs : Nat) : Int) = (a2 : Int) + (bs : Int) from by omega, show ((a2 + 2 * bs : Nat) : Int) = (a2 : Int) + 2 * (bs : Int) from by omega] at hc
              have HC : Hid (type_of% hc) := hc
              have HB2 : Hid (∀ W, Stab (ltOf cf) (U ++ V) W → SortedL (ltOf cf) W → ∃ p, a2 + 2 * bs = p * (2 * bs) ∧ (Pf2 ++ W).length = a2 + 2 * bs ∧ (Pf2 ++ W).length + T2.length = sz ∧ Blocks (ltOf cf) (2 * bs) (Pf2 ++ W) ∧ Blocks (ltOf cf) bs T2 ∧ Stab (ltOf cf) l0 ((Pf2 ++ W) ++ T2)) := by
                intro W tW sW
                obtain ⟨p, h1, h2, h3, h4, h5, h6⟩ := HB.out
                have hWl := tW.length HO.out
                simp at hWl h3
                refine ⟨p + 1, by rw [Nat.add_mul, Nat.one_mul]; omega, by simp; omega, by simp; omega, h4.snoc (p := p) (by omega) sW (by omega), bT, h6.trans ?_⟩
                rw [← List.append_assoc U, List.append_assoc Pf2 W]
                exact (Stab.refl Pf2).append (tW.append (Stab.refl T2))
              clear hc sU bV sV bT HB S5 hU hV
              go_wp2_with (go_at_fn 53; refine HC.out.mono ?_; rintro e w' ⟨rfl, W, S6, sW, tW⟩; have S7 : Aside (SWK enc k w0 blk off ((Pf2 ++ W) ++ T2).toArray w') := S6; have HB3 := HB2.out W tW sW; have HB4 : Hid (type_of% HB3) := HB3; clear S6 sW tW HB3)
              go_roundg (sz - (a2 + 2 * bs))
              case measure => omega
              case rel => exact ⟨a2 + 2 * bs, Pf2 ++ W, T2, by first | rfl | go_num, by first | rfl | go_num, hlt3, Nat.le_refl _, HB4, S7⟩
            · have hlt3z : ¬ ((a2 : Int) + 2 * (bs : Int) ≤ (sz : Int)) := by omega
              by_cases hlt4 : a2 + bs < sz
              · have hlt4z : (a2 : Int) + (bs : Int) < (sz : Int) := by omega
                obtain ⟨U, V, hT, hU⟩ : ∃ U V, T = U ++ V ∧ U.length = bs := by
                  refine ⟨T.take bs, T.drop bs, (List.take_append_drop _ _).symm, ?_⟩
                  obtain ⟨p, h1, h2, h3, _⟩ := HB.out; simp; omega
                subst hT
                have hV : V.length = sz - (a2 + bs) := by obtain ⟨p, h1, h2, h3, _⟩ := HB.out; simp at h3; omega
                have sU : SortedL (ltOf cf) U := by obtain ⟨p, _, _, _, _, h, _⟩ := HB.out; exact h.head hU
                have sV : SortedL (ltOf cf) V := by obtain ⟨p, _, _, _, _, h, _⟩ := HB.out; exact (h.tail hU).whole (by omega)
                have hc := HM.out (2 * bs) a2 (a2 + bs) sz Pf2 U V [] wr (by omega) (by obtain ⟨p, h1, h2, _⟩ := HB.out; omega) (by obtain ⟨p, h1, h2, _⟩ := HB.out; omega) (by obtain ⟨p, h1, h2, _⟩ := HB.out; omega) (by omega) (by omega) (by obtain ⟨p, h1, h2, h3, _⟩ := HB.out; simp at h3 ⊢; omega) sU sV (StCh.cong S5.out (by simp))
                rw [show ((a2 + bs : Nat) : Int) = (a2 : Int) + (bs : Int) from by omega] at hc
                have HC : Hid (type_of% hc) := hc
                have HB2 : Hid (∀ W, Stab (ltOf cf) (U ++ V) W → SortedL (ltOf cf) W → (Pf2 ++ W).length = sz ∧ Blocks (ltOf cf) (2 * bs) (Pf2 ++ W) ∧ Stab (ltOf cf) l0 (Pf2 ++ W)) := by
                  intro W tW sW
                  obtain ⟨p, h1, h2, h3, h4, h5, h6⟩ := HB.out
                  have hWl := tW.length HO.out
                  simp at hWl h3
                  exact ⟨by simp; omega, h4.snoc (p := p) (by omega) sW (by omega), h6.trans ((Stab.refl Pf2).append tW)⟩
                clear hc sU sV HB S5 hU hV
                go_wp2_with (go_at_fn 53; refine HC.out.mono ?_; rintro e w' ⟨rfl, W, S6, sW, tW⟩; have S7 : Aside (SWK enc k w0 blk off (Pf2 ++ W).toArray w') := StCh.cong S6 (by simp); have HB3 := HB2.out W tW sW; have HB4 : Hid (type_of% HB3) := HB3; clear S6 sW tW HB3)
                go_roundg (sz - 2 * bs)
                case measure => omega
                case rel => exact ⟨2 * bs, Pf2 ++ W, by first | rfl | go_num, by omega, by omega, HB4, S7⟩
              · have hlt4z : ¬ ((a2 : Int) + (bs : Int) < (sz : Int)) := by omega
                have HB4 : Hid ((Pf2 ++ T).length = sz ∧ Blocks (ltOf cf) (2 * bs) (Pf2 ++ T) ∧ Stab (ltOf cf) l0 (Pf2 ++ T)) := by
                  obtain ⟨p, h1, h2, h3, h4, h5, h6⟩ := HB.out
                  exact ⟨by simp; omega, h4.snoc (p := p) (by omega) (h5.whole (by omega)) (by omega), h6⟩
                clear HB
                go_wp2
                go_roundg (sz - 2 * bs)
                case measure => omega
                case rel => exact ⟨2 * bs, Pf2 ++ T, by first | rfl | go_num, by omega, by omega, HB4, S5⟩
        · have hlt2z : ¬ ((bs : Int) < (sz : Int)) := by omega
          go_wp2
          go_end0
          exact ⟨rfl, l, S4.out, HL2.out.2.1.whole (by have := HL2.out.1; omega), HL2.out.2.2⟩

set_option maxHeartbeats 1000000 in
/-- slices.SortStableFunc: the row sorted, equals in their order. -/
theorem StCh.sortStable {k : Nat} (L : StChF P k) (enc : α → List Value) (cf : α → α → Int) (hO : SWO (ltOf cf)) (g : Nat) (cb : Array Value) (blk off cap sz : Nat) (d0 : Array α) (w0 : World) (R : RowK enc k w0 blk off d0)
    (eg : ∀ args w, (callFunc g args).run P w = .ok (.enter g args) w) (hcmp : CmpLays P g cb enc k cf blk off sz w0) (hs : d0.size = sz) (hbig : sz < 4611686018427387904) (hins : StCh.Ins P enc k cf g cb blk off cap sz w0)
    (l0 : List α) (w : World) (hl : l0.length = sz) (S : SWK enc k w0 blk off l0.toArray w) :
    Calls P 27 #[.slice (some ⟨blk, off, none⟩) sz cap, .func (.func g) #[] cb] w fun e w' => e = .returned (.tuple #[]) ∧ ∃ W, SWK enc k w0 blk off W.toArray w' ∧ SortedL (ltOf cf) W ∧ Stab (ltOf cf) l0 W := by
  have hm := StCh.stable L enc cf hO g cb blk off cap sz d0 w0 R eg hcmp hs hbig hins l0 w hl S
  have mixed := L.mixed; have t3 := L.t3; have a3 := L.a3; have z3 := L.z3; have v3 := L.v3; have t4 := L.t4; have a4 := L.a4; have z4 := L.z4; have v4 := L.v4; have t22 := L.t22; have a22 := L.a22; have z22 := L.z22; have v22 := L.v22; have t25 := L.t25; have a25 := L.a25; have z25 := L.z25; have v25 := L.v25; have aE := L.aE; have zE := L.zE
  have e42 : ∀ args w, (callFunc 42 args).run P w = .ok (.enter 42 args) w := enters_of L.fstab (by kernel_rfl) rfl
  have HM : Hid (type_of% hm) := hm
  clear hm hins hO hl S hcmp
  go_enter L.fsort, Try.ntmps27
  go_wp2_with (go_at_fn 42; refine HM.out.mono ?_; rintro e w' ⟨rfl, W, S6, sW, tW⟩)
  go_end0
  exact ⟨rfl, W, S6, sW, tW⟩

set_option maxHeartbeats 1000000 in
/-- The empty row. -/
theorem StCh.sortStable_none {k : Nat} (L : StChF P k) (g cap : Nat) (cb : Array Value) (w : World) :
    Calls P 27 #[.slice none 0 cap, .func (.func g) #[] cb] w fun e w' => e = .returned (.tuple #[]) ∧ w' = w := by
  have h1 : Calls P 52 #[.slice none 0 cap, .int .i64 0, .int .i64 0, .func (.func g) #[] cb] w fun e w' => e = .returned (.tuple #[]) ∧ w' = w := by
    have mixed := L.mixed; have t3 := L.t3; have a3 := L.a3; have z3 := L.z3; have v3 := L.v3; have t4 := L.t4; have a4 := L.a4; have z4 := L.z4; have v4 := L.v4; have t22 := L.t22; have a22 := L.a22; have z22 := L.z22; have v22 := L.v22; have t25 := L.t25; have a25 := L.a25; have z25 := L.z25; have v25 := L.v25; have aE := L.aE; have zE := L.zE
    go_enter L.fins, Try.ntmps52
    go_wp2
    go_loopg [8] 0 (fun _ s8 wr => s8 = .int .i64 1 ∧ wr = w)
    case atStart => exact ⟨by first | rfl | go_num, rfl⟩
    case round =>
      obtain ⟨rfl, rfl⟩ := hrel
      go_wp2
      go_end0
      exact ⟨rfl, rfl⟩
  have h2 : Calls P 42 #[.slice none 0 cap, .int .i64 0, .func (.func g) #[] cb] w fun e w' => e = .returned (.tuple #[]) ∧ w' = w := by
    have mixed := L.mixed; have t3 := L.t3; have a3 := L.a3; have z3 := L.z3; have v3 := L.v3; have t4 := L.t4; have a4 := L.a4; have z4 := L.z4; have v4 := L.v4; have t22 := L.t22; have a22 := L.a22; have z22 := L.z22; have v22 := L.v22; have t25 := L.t25; have a25 := L.a25; have z25 := L.z25; have v25 := L.v25; have aE := L.aE; have zE := L.zE
    have e52 : ∀ args w, (callFunc 52 args).run P w = .ok (.enter 52 args) w := enters_of L.fins (by kernel_rfl) rfl
    go_enter L.fstab, Try.ntmps42
    go_wp2
    go_loopg [7, 8] 0 (fun _ s7 s8 wr => s7 = .int .i64 0 ∧ s8 = .int .i64 20 ∧ wr = w)
    case atStart => exact ⟨by first | rfl | go_num, by first | rfl | go_num, rfl⟩
    case round =>
      obtain ⟨rfl, rfl, rfl⟩ := hrel
      go_wp2_with (go_at_fn 52; refine h1.mono ?_; rintro e wz ⟨rfl, rfl⟩)
      go_loopg [6] 0 (fun _ s6 wr => s6 = .int .i64 20 ∧ wr = wz)
      case atStart => exact ⟨by first | rfl | go_num, rfl⟩
      case round =>
        obtain ⟨rfl, rfl⟩ := hrel
        go_wp2
        go_end0
        exact ⟨rfl, rfl⟩
  have mixed := L.mixed; have t3 := L.t3; have a3 := L.a3; have z3 := L.z3; have v3 := L.v3; have t4 := L.t4; have a4 := L.a4; have z4 := L.z4; have v4 := L.v4; have t22 := L.t22; have a22 := L.a22; have z22 := L.z22; have v22 := L.v22; have t25 := L.t25; have a25 := L.a25; have z25 := L.z25; have v25 := L.v25; have aE := L.aE; have zE := L.zE
  have e42 : ∀ args w, (callFunc 42 args).run P w = .ok (.enter 42 args) w := enters_of L.fstab (by kernel_rfl) rfl
  go_enter L.fsort, Try.ntmps27
  go_wp2_with (go_at_fn 42; refine h2.mono ?_; rintro e w' ⟨rfl, rfl⟩)
  go_end0
  exact ⟨rfl, rfl⟩
end Go.Proofs.Ytgdmdhhihoifkaa
