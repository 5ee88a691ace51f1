/- A part of the proof of the law; the last part states it: whatever the law reads, of bulk at most 2^20, it returns true and what it reads is as it was. Condition: the form's own bound. -/
import Derived.Carry
import Derived.Deep.AppendLies
import Derived.Test.YtgjkidclpehnjaaDo3
import Derived.Lib.SmallJoins
import Derived.Test.YtgjkidclpehnjaaDo2
set_option linter.unusedVariables false
set_option linter.unusedSimpArgs false
namespace Go.Proofs.Ytgjkidclpehnjaa.Pr
open Go.Shelf Go.RowKit Go.Lib Go.Sort Go.Proofs.Ytgjkidclpehnjaa
open Go.Proofs.YtgjkidclpehnjaaW.PrintWords Go.Proofs.YtgjkidclpehnjaaW.PrintLast Go.Proofs.YtgjkidclpehnjaaW.PrintMore
open Go.ChangeMaps (setBlock)

/-! ### the keys, plainly -/
theorem mfind_none {t : T} : ∀ {m : List (T × Int)} {i : Nat}, mfind t m i = none ↔ t ∉ m.map Prod.fst
  | [], i => by simp [mfind]
  | p :: m, i => by
    rw [mfind]
    by_cases h : t = p.1
    · simp [h]
    · rw [if_neg h, mfind_none (m := m), List.map_cons, List.mem_cons]; simp [h]
theorem mput_keys (t : T) (v : Int) (m : List (T × Int)) : (mput t v m).map Prod.fst = putT (m.map Prod.fst) t := by
  unfold mput putT
  cases hq : mfind t m 0 with
  | none => rw [if_neg (mfind_none.1 hq)]; simp
  | some q =>
    obtain ⟨i, v0⟩ := q
    obtain ⟨n, hin, hmn⟩ := mfind_at t m 0 i v0 hq
    obtain rfl : i = n := by omega
    have hmem : t ∈ m.map Prod.fst := List.mem_map.2 ⟨(t, v0), List.mem_of_getElem? hmn, rfl⟩
    rw [if_pos hmem]
    apply List.ext_getElem?
    intro j
    simp only [List.getElem?_map, List.getElem?_set]
    by_cases hj : i = j
    · subst hj
      have h8 := lt_of_get hmn
      have h9 := List.getElem?_eq_getElem h8
      rw [hmn] at h9
      injection h9 with h9
      simp [h8, ← h9]
    · simp [hj]
theorem mdel_keys (t : T) (m : List (T × Int)) (hn : (m.map Prod.fst).Nodup) : (mdel t m).map Prod.fst = (m.map Prod.fst).filter (fun u => decide (u ≠ t)) := by
  unfold mdel
  cases hq : mfind t m 0 with
  | none =>
    have h := mfind_none.1 hq
    rw [List.filter_eq_self.2]
    intro u hu
    have : u ≠ t := fun e => h (by rw [← e]; exact hu)
    simpa using this
  | some q =>
    obtain ⟨i, v0⟩ := q
    obtain ⟨n, hin, hmn⟩ := mfind_at t m 0 i v0 hq
    obtain rfl : i = n := by omega
    have hlt := lt_of_get hmn
    have hk : (m.map Prod.fst)[i]? = some t := by rw [List.getElem?_map, hmn]; rfl
    dsimp only
    rw [ChangeMaps.map_eraseIdx]
    generalize m.map Prod.fst = l at hn hk
    clear hq hmn hlt hin
    induction l generalizing i with
    | nil => simp at hk
    | cons x l ih =>
      rw [List.nodup_cons] at hn
      cases i with
      | zero =>
        obtain rfl : x = t := by simpa using hk
        rw [List.eraseIdx_cons_zero, List.filter_cons_of_neg (by simp), List.filter_eq_self.2]
        intro u hu
        have : u ≠ x := fun e => hn.1 (by rw [← e]; exact hu)
        simpa using this
      | succ i =>
        have hk' : l[i]? = some t := by simpa using hk
        have hx : x ≠ t := fun e => hn.1 (by rw [e]; exact List.mem_of_getElem? hk')
        rw [List.eraseIdx_cons_succ, List.filter_cons_of_pos (by simpa using hx), ih i hn.2 hk']
theorem putT_nodup {l : List T} (h : l.Nodup) (t : T) : (putT l t).Nodup := by
  unfold putT
  split
  · exact h
  · rename_i hq
    rw [List.nodup_append]
    refine ⟨h, by simp, ?_⟩
    intro a ha b hb
    simp only [List.mem_singleton] at hb
    rintro rfl
    exact hq (hb ▸ ha)
theorem putT_filter (l : List T) (t : T) : (putT l t).filter (fun u => decide (u ≠ t)) = l.filter (fun u => decide (u ≠ t)) := by
  unfold putT
  split
  · rfl
  · rw [List.filter_append, List.filter_cons_of_neg (by simp), List.filter_nil, List.append_nil]
theorem putT_len (l : List T) (t : T) : (putT l t).length ≤ l.length + 1 := by
  unfold putT; split <;> simp
theorem playDo_len (l : List T) (c : Ch) : (playDo l c).length ≤ l.length + 1 := by
  unfold playDo; split
  · exact Nat.le_trans (List.length_filter_le _ _) (Nat.le_succ _)
  · exact putT_len _ _
theorem foldl_len {β : Type} (f : List T → β → List T) (hf : ∀ l x, (f l x).length ≤ l.length + 1) : ∀ (xs : List β) (l : List T), (xs.foldl f l).length ≤ l.length + xs.length
  | [], l => by simp
  | x :: xs, l => by
    rw [List.foldl_cons, List.length_cons]
    have := foldl_len f hf xs (f l x)
    have := hf l x
    omega
theorem play_len (ts : List T) (cs : List Ch) : (playL ts cs).length ≤ ts.length + cs.length := by
  unfold playL
  have h1 := foldl_len playDo playDo_len cs (ts.foldl putT [])
  have h2 := foldl_len putT putT_len ts []
  simp at h2; omega
theorem ne_row {w : World} {base : Nat} {v : Value} {n : Nat} {xs : List Value} {e : TypeId} {sz b : Nat} (h : w.ownsRow base e sz v n xs) (hb : ∀ cs q fr, w.heap[b]? ≠ some (.cells cs q fr)) : some b ≠ v.ownBlock := by
  rcases h.2 with ⟨rfl, _⟩ | ⟨g, cap, cur, rfl, _, hg, _⟩
  · simp [Value.ownBlock]
  · intro e
    have : b = g := by simpa [Value.ownBlock] using e
    subst this
    exact hb _ _ _ hg
theorem RngIs.no {w : World} {r b : Nat} {ks acc : List T} {n : Nat} (h : RngIs w r b ks acc n) : (∀ cs q fr, w.heap[r]? ≠ some (.cells cs q fr)) ∧ (∀ cs q fr, w.heap[b]? ≠ some (.cells cs q fr)) := by
  obtain ⟨es, clock, since, seen, c, L, h1, h2, _⟩ := h
  exact ⟨fun _ _ _ e => (by rw [h2] at e; cases e), fun _ _ _ e => (by rw [h1] at e; cases e)⟩
theorem RngIs.alloc {w : World} {r b : Nat} {ks acc : List T} {n : Nat} (h : RngIs w r b ks acc n) (o : Obj) : RngIs (w.alloc o) r b ks acc n := h.kept (Below.heap_alloc _ _ _ h.lt.2) (Below.heap_alloc _ _ _ h.lt.1)
theorem below_map {B : Nat} {w0 w w' : World} (hb : Below B w0 w) (hB : B ≤ w.heap.size) {b : Nat} (hg : w.grownBy w' (some b)) (h : B ≤ b) : Below B w0 w' := hb.grown hg hB (fun k e => by cases e; exact h)

set_option maxHeartbeats 4000000 in
set_option maxRecDepth 100000 in
theorem watch_Play.calls (A0 : Option Addr) (c0 : Nat) (l0 : List T) (A1 : Option Addr) (c1 : Nat) (l1 : List Ch) (r : List T) (w : World) (hr0 : Kd.C k25 w A0 l0.length l0) (hc0 : l0.length ≤ c0) (hr1 : Kd.C k29 w A1 l1.length l1) (hc1 : l1.length ≤ c1) (h : watch_Play.f l0 l1 = some r) :
    Calls Try.prog 10 #[.slice A0 l0.length c0, .slice A1 l1.length c1] w fun e w' => ∃ v0_ : Value, e = .returned (v0_) ∧ Kd.R k25 25 w' w.heap.size (fun _ => True) v0_ r ∧ Below w.heap.size w w' := by
  obtain ⟨ht0, ht1, rfl⟩ : l0.length ≤ 1073741824 ∧ l1.length ≤ 1073741824 ∧ msort ltT (playL l0 l1) = r := by
    unfold watch_Play.f tiny at h
    split at h
    · split at h
      · rename_i h1 h2
        exact ⟨of_decide_eq_true h1, of_decide_eq_true h2, Option.some.inj h⟩
      · cases h
    · cases h
  have HR0 : Aside (Kd.C k25 w A0 l0.length l0) := hr0
  have HR1 : Aside (Kd.C k29 w A1 l1.length l1) := hr1
  clear hr0 hc0 hr1 hc1 h
  have hmm := @run_makeMap Try.prog
  go_enter Try.func10, Try.ntmps10
  go_wp2
  clear hmm
  obtain ⟨B, hB⟩ : ∃ B, B = w.heap.size := ⟨_, rfl⟩
  have S0 : Aside (MapIs (w.alloc (.map #[] 0)) B [] ∧ Below B w (w.alloc (.map #[] 0)) ∧ B < (w.alloc (.map #[] 0)).heap.size) := by
    subst hB; exact ⟨MapIs.made w, (Below.refl _ w).alloc (Nat.le_refl _) _, by simp⟩
  rw [← hB]
  have HBe : Hid (B = w.heap.size) := hB
  clear hB
  go_loopg [15] l0.length (fun gk s15 wr => ∃ (i : Nat) (m : List (T × Int)), s15 = .int .i64 i ∧ i ≤ l0.length ∧ l0.length - i ≤ gk ∧ Hid (m.map Prod.fst = (l0.take i).foldl putT [] ∧ (m.map Prod.fst).Nodup) ∧ Aside (MapIs wr B m ∧ Below B w wr ∧ B < wr.heap.size))
  case atStart => exact ⟨0, [], rfl, Nat.zero_le _, Nat.le_refl _, ⟨rfl, by simp⟩, S0⟩
  case round =>
    clear S0
    obtain ⟨i, m, rfl, hi, hg, HM, S1⟩ := hrel
    by_cases hlt : i < l0.length
    · have hltz : (i : Int) < (l0.length : Int) := by omega
      obtain ⟨ad, x, hA, hx, h0, h1, h2⟩ := el_T HR0.out rfl i hlt
      have HBl : Below w.heap.size w wr := by rw [← HBe.out]; exact S1.out.2.1
      replace h0 := cell_below HBl h0
      replace h1 := cell_below HBl h1
      replace h2 := cell_below HBl h2
      clear HBl
      subst hA
      obtain ⟨w1, hrun, hM1, hg1⟩ := put_T (S1.out.1.alloc (.cells #[.string x.f0, .string x.f1, .string x.f2] 25)) x 1
      have HM1 : Hid ((mput x 1 m).map Prod.fst = (l0.take (i + 1)).foldl putT [] ∧ ((mput x 1 m).map Prod.fst).Nodup) := by
        have h := HM.out
        rw [mput_keys]
        refine ⟨?_, putT_nodup h.2 _⟩
        rw [take_step l0 i x hx, List.foldl_append, h.1]; rfl
      have S2 : Aside (MapIs w1 B (mput x 1 m) ∧ Below B w w1 ∧ B < w1.heap.size) := ⟨hM1, below_map (S1.out.2.1.alloc (by have := S1.out.2.2; omega) _) (by have := S1.out.2.2; simp; omega) hg1 (Nat.le_refl _), by have := S1.out.2.2; have := hg1.size; simp at this; omega⟩
      clear hM1 hg1 HM hx S1
      obtain ⟨t0, t1, t2⟩ := x
      simp only [kv] at hrun
      dsimp only at h0 h1 h2
      go_wp2
      go_roundg (l0.length - (i + 1))
      case measure => omega
      case rel => exact ⟨i + 1, _, by first | rfl | go_num, by omega, Nat.le_refl _, HM1, S2.out⟩
    · have hltz : ¬ (i : Int) < (l0.length : Int) := by omega
      have HM0 : Hid (m.map Prod.fst = l0.foldl putT [] ∧ (m.map Prod.fst).Nodup) := by
        have h := HM.out
        exact ⟨by rw [h.1, List.take_of_length_le (by omega)], h.2⟩
      clear HM
      go_wp2
      go_loopg [24] l1.length (fun gk s24 wr => ∃ (i : Nat) (m : List (T × Int)), s24 = .int .i64 i ∧ i ≤ l1.length ∧ l1.length - i ≤ gk ∧ Hid (m.map Prod.fst = (l1.take i).foldl playDo (l0.foldl putT []) ∧ (m.map Prod.fst).Nodup) ∧ Aside (MapIs wr B m ∧ Below B w wr ∧ B < wr.heap.size))
      case atStart => exact ⟨0, m, rfl, Nat.zero_le _, Nat.le_refl _, HM0, S1⟩
      case round =>
        clear S1 HM0
        obtain ⟨i, m, rfl, hi, hg, HM, S1⟩ := hrel
        by_cases hlt : i < l1.length
        · have hltz : (i : Int) < (l1.length : Int) := by omega
          obtain ⟨ad, x, hA, hx, h0, h1, h2, h3, h4⟩ := el_Ch HR1.out rfl i hlt
          have HBl : Below w.heap.size w wr := by rw [← HBe.out]; exact S1.out.2.1
          replace h0 := cell_below HBl h0
          replace h1 := cell_below HBl h1
          replace h2 := cell_below HBl h2
          replace h3 := cell_below HBl h3
          replace h4 := cell_below HBl h4
          clear HBl
          subst hA
          have hbx := blk_new wr (.cells #[.int .i64 x.f0, .bool x.f1.f0, .string x.f1.f1.f0, .string x.f1.f1.f1, .string x.f1.f1.f2] 29)
          obtain ⟨w1, hrun, hM1, hg1⟩ := put_T (S1.out.1.alloc (.cells #[.int .i64 x.f0, .bool x.f1.f0, .string x.f1.f1.f0, .string x.f1.f1.f1, .string x.f1.f1.f2] 29)) x.f1.f1 1
          have hb1 := blk_grown hbx hg1 (by have := S1.out.2.2; simp; omega)
          have hB1 := below_map (S1.out.2.1.alloc (by have := S1.out.2.2; omega) (.cells #[.int .i64 x.f0, .bool x.f1.f0, .string x.f1.f1.f0, .string x.f1.f1.f1, .string x.f1.f1.f2] 29)) (by have := S1.out.2.2; simp; omega) hg1 (Nat.le_refl _)
          have hs1 : B < w1.heap.size := by have := S1.out.2.2; have := hg1.size; simp at this; omega
          obtain ⟨w2, hrun2, hM2, hg2⟩ := del_T hM1 x.f1.f1
          have hB2 := below_map hB1 (by omega) hg2 (Nat.le_refl _)
          have hs2 : B < w2.heap.size := by have := hg2.size; omega
          have hk1 : ((mput x.f1.f1 1 m).map Prod.fst).Nodup := by rw [mput_keys]; exact putT_nodup HM.out.2 _
          have hstep : (l1.take (i + 1)).foldl playDo (l0.foldl putT []) = playDo (m.map Prod.fst) x := by
            rw [take_step l1 i x hx, List.foldl_append, HM.out.1]; rfl
          obtain ⟨x0, x1, t0, t1, t2⟩ := x
          simp only [kv] at hrun hrun2
          dsimp only at h0 h1 h2 h3 h4 hb1 hk1 hM1 hM2
          by_cases hd : x1 = true
          · subst hd
            have HM1 : Hid ((mdel ⟨t0, t1, t2⟩ (mput ⟨t0, t1, t2⟩ 1 m)).map Prod.fst = (l1.take (i + 1)).foldl playDo (l0.foldl putT []) ∧ ((mdel ⟨t0, t1, t2⟩ (mput ⟨t0, t1, t2⟩ 1 m)).map Prod.fst).Nodup) := by
              rw [mdel_keys _ _ hk1, mput_keys, putT_filter, hstep]
              exact ⟨rfl, HM.out.2.sublist List.filter_sublist⟩
            have S2 : Aside (MapIs w2 B (mdel ⟨t0, t1, t2⟩ (mput ⟨t0, t1, t2⟩ 1 m)) ∧ Below B w w2 ∧ B < w2.heap.size) := ⟨hM2, hB2, hs2⟩
            have e1 : w1.cell? ⟨wr.heap.size, 1, none⟩ = some (.bool true) := (blk_cell hb1 1).trans rfl
            have e2 : w1.cell? ⟨wr.heap.size, 2, none⟩ = some (.string t0) := (blk_cell hb1 2).trans rfl
            have e3 : w1.cell? ⟨wr.heap.size, 3, none⟩ = some (.string t1) := (blk_cell hb1 3).trans rfl
            have e4 : w1.cell? ⟨wr.heap.size, 4, none⟩ = some (.string t2) := (blk_cell hb1 4).trans rfl
            clear hM1 hg1 HM hx S1 hbx hb1 hB1 hs1 hM2 hg2 hB2 hs2 hk1 hstep
            go_wp2
            go_roundg (l1.length - (i + 1))
            case measure => omega
            case rel => exact ⟨i + 1, _, by first | rfl | go_num, by omega, Nat.le_refl _, HM1, S2.out⟩
          · obtain rfl : x1 = false := by simpa using hd
            have HM1 : Hid ((mput ⟨t0, t1, t2⟩ 1 m).map Prod.fst = (l1.take (i + 1)).foldl playDo (l0.foldl putT []) ∧ ((mput ⟨t0, t1, t2⟩ 1 m).map Prod.fst).Nodup) := by
              rw [mput_keys] at hk1 ⊢
              rw [hstep]
              exact ⟨rfl, hk1⟩
            have S2 : Aside (MapIs w1 B (mput ⟨t0, t1, t2⟩ 1 m) ∧ Below B w w1 ∧ B < w1.heap.size) := ⟨hM1, hB1, hs1⟩
            have e1 : w1.cell? ⟨wr.heap.size, 1, none⟩ = some (.bool false) := (blk_cell hb1 1).trans rfl
            clear hM1 hg1 HM hx S1 hbx hb1 hB1 hs1 hM2 hg2 hB2 hs2 hk1 hstep hrun2
            go_wp2
            go_roundg (l1.length - (i + 1))
            case measure => omega
            case rel => exact ⟨i + 1, _, by first | rfl | go_num, by omega, Nat.le_refl _, HM1, S2.out⟩
        · have hltz : ¬ (i : Int) < (l1.length : Int) := by omega
          have HM0 : Hid (m.map Prod.fst = playL l0 l1 ∧ m.length ≤ 2147483648) := by
            have h := HM.out
            have h1 : m.map Prod.fst = playL l0 l1 := by rw [h.1, List.take_of_length_le (by omega)]; rfl
            have h2 := play_len l0 l1
            have h3 := congrArg List.length h1
            simp at h3
            exact ⟨h1, by omega⟩
          clear HM
          obtain ⟨o, hrange, hrng⟩ := rng_start S1.out.1
          obtain ⟨rb, hrb⟩ : ∃ rb, rb = wr.heap.size := ⟨_, rfl⟩
          rw [← hrb] at hrange hrng
          have S2 : Aside (RngIs (wr.alloc o) rb B (m.map Prod.fst) [] m.length ∧ Below B w (wr.alloc o) ∧ B < (wr.alloc o).heap.size ∧ B ≤ rb) := ⟨hrng, S1.out.2.1.alloc (by have := S1.out.2.2; omega) _, by have := S1.out.2.2; simp; omega, by have := S1.out.2.2; omega⟩
          clear hrng S1 hrb
          go_wp2
          go_loopg [10] m.length (fun gk s10 wr => ∃ (acc : List T) (n : Nat), n ≤ gk ∧ acc.length + n = m.length ∧ Aside (RngIs wr rb B (m.map Prod.fst) acc n ∧ Below B w wr ∧ B < wr.heap.size ∧ B ≤ rb) ∧ Aside (Kd.R k25 25 wr B (fun _ => True) s10 acc))
          case atStart => exact ⟨[], m.length, Nat.le_refl _, by simp, S2, Kd.R_nil _ _ _ _ _⟩
          case round =>
            clear S2
            obtain ⟨acc, n, hn, hlen, S3, HO⟩ := hrel
            rcases rng_next S3.out.1 with ⟨h0, hp, hnx⟩ | ⟨t, w1, n', hn', ⟨u, hnx, hen⟩, hr1, hg1⟩
            · have hal : acc.length < 4611686018427387904 := by have := HM0.out.2; omega
              have hs := sort_T B u10 acc wr (fl_T HO.out) hal
              have hms : msort ltT acc = msort ltT (playL l0 l1) := by
                rw [← HM0.out.1]
                exact msort_congr cmp_T.swo hp (fun x _ y _ q1 q2 => by
                  have a := cmp_T.anti x y
                  unfold ltOf at q1 q2
                  rw [decide_eq_false_iff_not] at q1 q2
                  exact cmpT_zero.1 (by omega))
              have HMS : Hid (msort ltT acc = msort ltT (playL l0 l1)) := hms
              have HSo : Hid (type_of% hs) := hs
              have HF : Aside (wr.ownsRow B 25 3 u10 acc.length (acc.flatMap enT)) := fl_T HO.out
              clear hs hal hms hp
              go_wp2_with (go_at_call 29; refine HSo.out.mono ?_; rintro e w1 ⟨rfl, ho1, hg1⟩; have HO1 : Aside _ := ho1; have HG1 : Aside _ := hg1; clear ho1 hg1)
              go_ret
              refine ⟨_, rfl, ?_, ?_⟩
              · rw [← HMS.out, ← HBe.out]; exact R_T HO1.out
              · rw [← HBe.out]; exact below_grown S3.out.2.1 HG1.out (by have := S3.out.2.2.1; omega) HF.out
            · have hal : acc.length < 4294967296 := by have := HM0.out.2; omega
              have hn1 := ne_row (fl_T HO.out) S3.out.1.no.1
              have hn2 := ne_row (fl_T HO.out) S3.out.1.no.2
              have hO1 := Kd.R_grown1 HO.out rfl hg1 hn1
              have hB1 := below_map S3.out.2.1 (by have := S3.out.2.2.1; omega) hg1 S3.out.2.2.2
              have hs1 : B < w1.heap.size := by have := S3.out.2.2.1; have := hg1.size; omega
              have HL : Aside (acc.length < 4294967296 ∧ B < w1.heap.size ∧ B ≤ rb) := ⟨hal, hs1, S3.out.2.2.2⟩
              have HW : Aside (RngIs w1 rb B (m.map Prod.fst) (acc ++ [t]) n' ∧ Kd.R k25 25 w1 B (fun _ => True) u10 acc ∧ Below B w w1 ∧ some rb ≠ u10.ownBlock ∧ some B ≠ u10.ownBlock) := ⟨hr1, hO1, hB1, hn1, hn2⟩
              clear hal hn1 hn2 hO1 hB1 hs1 hr1 hg1 S3 HO
              obtain ⟨t0, t1, t2⟩ := t
              simp only [kv] at hnx hen
              go_wp2_with (at_builtin; refine app_T (w0 := w) B rfl (.tmp 46) (.tmp 48) rfl u10 acc ⟨t0, t1, t2⟩ rfl (by first | (go_simp; done) | (go_simp; rfl)) ?aO ?aB ?aS HL.out.1 ?_; (case aO => exact Kd.R_alloc HW.out.2.1 _); (case aB => exact HW.out.2.2.1.alloc (by have := HL.out.2.1; omega) _); (case aS => have := HL.out.2.1; simp; omega); intro v2 w2 ho hb hg2 hat; have HO2 : Aside _ := ho; have HB2 : Aside _ := hb; have HG2 : Aside _ := hg2; clear ho hb hg2 hat)
              go_roundg n'
              case measure => omega
              case rel =>
                have h1 := HW.out.1.alloc (.cells #[.string t0, .string t1, .string t2] 25)
                refine ⟨_, n', Nat.le_refl _, by simp; omega, ⟨h1.kept (HG2.out.block _ h1.lt.2 HW.out.2.2.2.2) (HG2.out.block _ h1.lt.1 HW.out.2.2.2.1), HB2.out, ?_, HL.out.2.2⟩, HO2.out⟩
                have := HG2.out.size; have := HL.out.2.1; simp at *; omega
end Go.Proofs.Ytgjkidclpehnjaa.Pr

namespace Go.Proofs.Ytgjkidclpehnjaa.Pr
open Go.Shelf Go.RowKit Go.Lib Go.Sort Go.Proofs.Ytgjkidclpehnjaa
open Go.Proofs.YtgjkidclpehnjaaW.PrintWords Go.Proofs.YtgjkidclpehnjaaW.PrintLast Go.Proofs.YtgjkidclpehnjaaW.PrintMore
open Go.ChangeMaps (setBlock)

/-! ### the open rows and the map that names them, plainly -/
def Inv (out : List Ro) (m : List (T × Int)) : Prop := (m.map Prod.fst).Nodup ∧ ∀ t v, (t, v) ∈ m ↔ ∃ (i : Nat) (r : Ro), v = (i : Int) ∧ out[i]? = some r ∧ r.f0 = t ∧ r.f2 = 0
theorem mfind_mem {t : T} {m : List (T × Int)} {p : Nat} {v : Int} (h : mfind t m 0 = some (p, v)) : (t, v) ∈ m := by
  obtain ⟨n, _, hn⟩ := mfind_at t m 0 p v h
  exact List.mem_of_getElem? hn
theorem key_one {m : List (T × Int)} (hn : (m.map Prod.fst).Nodup) {t : T} {u v : Int} (h1 : (t, u) ∈ m) (h2 : (t, v) ∈ m) : u = v := by
  induction m with
  | nil => simp at h1
  | cons p m ih =>
    rw [List.map_cons, List.nodup_cons] at hn
    have key : ∀ {x : Int}, (t, x) ∈ m → t ∈ m.map Prod.fst := fun h => List.mem_map.2 ⟨_, h, rfl⟩
    rcases List.mem_cons.1 h1 with e1 | e1 <;> rcases List.mem_cons.1 h2 with e2 | e2
    · rw [← e1] at e2; injection e2 with _ e; exact e.symm
    · exact absurd (key e2) (by rw [← e1] at hn; exact hn.1)
    · exact absurd (key e1) (by rw [← e2] at hn; exact hn.1)
    · exact ih hn.2 e1 e2
theorem mem_mdel {m : List (T × Int)} (hn : (m.map Prod.fst).Nodup) (t u : T) (v : Int) : (u, v) ∈ mdel t m ↔ (u, v) ∈ m ∧ u ≠ t := by
  have hk := mdel_keys t m hn
  have hsub : (mdel t m).Sublist m := by
    unfold mdel
    split
    · exact List.eraseIdx_sublist _ _
    · exact List.Sublist.refl _
  constructor
  · intro h
    refine ⟨hsub.subset h, ?_⟩
    have : u ∈ (mdel t m).map Prod.fst := List.mem_map.2 ⟨_, h, rfl⟩
    rw [hk] at this
    simpa using (List.mem_filter.1 this).2
  · rintro ⟨h1, h2⟩
    have : u ∈ (mdel t m).map Prod.fst := by
      rw [hk]
      exact List.mem_filter.2 ⟨List.mem_map.2 ⟨_, h1, rfl⟩, by simpa using h2⟩
    obtain ⟨⟨u', v'⟩, h3, rfl⟩ := List.mem_map.1 this
    have := key_one hn h1 (hsub.subset h3)
    subst this
    exact h3
theorem Inv.no {out : List Ro} {m : List (T × Int)} (h : Inv out m) {t : T} (hq : mfind t m 0 = none) : out.any (openAt t) = false := by
  rw [List.any_eq_false]
  intro r hr ho
  obtain ⟨i, hi⟩ := List.getElem?_of_mem hr
  have ho2 := of_decide_eq_true ho
  have := (h.2 t i).2 ⟨i, r, rfl, hi, ho2.1, ho2.2⟩
  exact mfind_none.1 hq (List.mem_map.2 ⟨_, this, rfl⟩)
theorem Inv.yes {out : List Ro} {m : List (T × Int)} (h : Inv out m) {t : T} {p : Nat} {v : Int} (hq : mfind t m 0 = some (p, v)) : ∃ (i : Nat) (r : Ro), v = (i : Int) ∧ out[i]? = some r ∧ r.f0 = t ∧ r.f2 = 0 ∧ out.any (openAt t) = true ∧ (∀ j r', out[j]? = some r' → openAt t r' = true → j = i) := by
  obtain ⟨i, r, hv, hi, h1, h2⟩ := (h.2 t v).1 (mfind_mem hq)
  refine ⟨i, r, hv, hi, h1, h2, List.any_eq_true.2 ⟨r, List.mem_of_getElem? hi, decide_eq_true ⟨h1, h2⟩⟩, ?_⟩
  intro j r' hj ho
  have ho2 := of_decide_eq_true ho
  have h3 := (h.2 t j).2 ⟨j, r', rfl, hj, ho2.1, ho2.2⟩
  have := key_one h.1 h3 (mfind_mem hq)
  omega
theorem Inv.put {out : List Ro} {m : List (T × Int)} (h : Inv out m) {t : T} (hq : mfind t m 0 = none) (x : Int) : Inv (out ++ [⟨t, x, 0⟩]) (mput t (out.length : Nat) m) := by
  refine ⟨by rw [mput_keys]; exact putT_nodup h.1 t, fun u v => ?_⟩
  have hp : mput t (out.length : Nat) m = m ++ [(t, (out.length : Int))] := by unfold mput; rw [hq]
  rw [hp, List.mem_append, List.mem_singleton, h.2 u v]
  constructor
  · rintro (⟨i, r, h1, h2, h3⟩ | h1)
    · exact ⟨i, r, h1, by rw [List.getElem?_append_left (lt_of_get h2)]; exact h2, h3⟩
    · injection h1 with h1 h2
      exact ⟨out.length, ⟨t, x, 0⟩, h2, by simp, h1.symm, rfl⟩
  · rintro ⟨i, r, h1, h2, h3, h4⟩
    rcases Nat.lt_or_ge i out.length with hi | hi
    · left
      rw [List.getElem?_append_left hi] at h2
      exact ⟨i, r, h1, h2, h3, h4⟩
    · right
      have := lt_of_get h2
      simp at this
      obtain rfl : i = out.length := by omega
      simp at h2
      subst h2
      rw [h1, ← h3]
theorem Inv.close {out : List Ro} {m : List (T × Int)} (h : Inv out m) {t : T} {i : Nat} {r : Ro} (hi : out[i]? = some r) (h1 : r.f0 = t) (hu : ∀ j r', out[j]? = some r' → openAt t r' = true → j = i) (x : Int) (hx : x ≠ 0) : Inv (out.set i ⟨r.f0, r.f1, x⟩) (mdel t m) := by
  refine ⟨by rw [mdel_keys t m h.1]; exact h.1.sublist List.filter_sublist, fun u v => ?_⟩
  rw [mem_mdel h.1, h.2 u v]
  constructor
  · rintro ⟨⟨j, r', h2, h3, h4, h5⟩, hne⟩
    refine ⟨j, r', h2, ?_, h4, h5⟩
    have : i ≠ j := by
      rintro rfl
      rw [hi] at h3; injection h3 with h3
      exact hne (by rw [← h4, ← h3, h1])
    rw [List.getElem?_set_ne this]; exact h3
  · rintro ⟨j, r', h2, h3, h4, h5⟩
    by_cases hj : i = j
    · subst hj
      rw [List.getElem?_set_self (lt_of_get hi)] at h3
      injection h3 with h3
      subst h3
      exact absurd h5 hx
    · rw [List.getElem?_set_ne hj] at h3
      refine ⟨⟨j, r', h2, h3, h4, h5⟩, ?_⟩
      rintro rfl
      exact hj (hu j r' h3 (decide_eq_true ⟨h4, h5⟩)).symm
theorem close_map {out : List Ro} {t : T} {i : Nat} {r : Ro} (hi : out[i]? = some r) (h1 : r.f0 = t) (h2 : r.f2 = 0) (hu : ∀ j r', out[j]? = some r' → openAt t r' = true → j = i) (x : Int) :
    out.map (fun r => if openAt t r = true then ⟨r.f0, r.f1, x⟩ else r) = out.set i ⟨r.f0, r.f1, x⟩ := by
  apply List.ext_getElem?
  intro j
  rw [List.getElem?_map]
  by_cases hj : i = j
  · subst hj
    rw [List.getElem?_set_self (lt_of_get hi), hi, Option.map_some, if_pos (show openAt t r = true from decide_eq_true ⟨h1, h2⟩)]
  · rw [List.getElem?_set_ne hj]
    cases hq : out[j]? with
    | none => rfl
    | some r' =>
      rw [Option.map_some, if_neg]
      intro ho
      exact hj (hu j r' hq ho).symm
theorem set_same {out : List Ro} {i : Nat} {r : Ro} (hi : out[i]? = some r) (h2 : r.f2 = 0) : out.set i ⟨r.f0, r.f1, 0⟩ = out := by
  apply List.ext_getElem?
  intro j
  by_cases hj : i = j
  · subst hj
    rw [List.getElem?_set_self (lt_of_get hi), hi]
    obtain ⟨a, b, c⟩ := r
    dsimp only at h2
    rw [h2]
  · rw [List.getElem?_set_ne hj]
theorem rowsDo_len (out : List Ro) (c : Ch) : (rowsDo out c).length ≤ out.length + 1 := by
  unfold rowsDo
  split <;> split <;> simp
theorem rows_len (l : List Ch) : (rowsL l).length ≤ l.length := by
  unfold rowsL
  have : ∀ (l : List Ch) (o : List Ro), (l.foldl rowsDo o).length ≤ o.length + l.length := by
    intro l
    induction l with
    | nil => intro o; simp
    | cons c l ih =>
      intro o
      rw [List.foldl_cons, List.length_cons]
      have := ih (rowsDo o c)
      have := rowsDo_len o c
      omega
  simpa using this l []

/-! ### one cell of a row turned -/
theorem flat_set (x : Int) : ∀ (l : List Ro) (i : Nat) (r : Ro), l[i]? = some r → (l.flatMap enRo).set (i * 5 + 4) (.int .i64 x) = (l.set i ⟨r.f0, r.f1, x⟩).flatMap enRo
  | [], i, r, h => by simp at h
  | y :: l, 0, r, h => by
    obtain rfl : y = r := by simpa using h
    simp [enRo, enT]
  | y :: l, i + 1, r, h => by
    have ih := flat_set x l i r (by simpa using h)
    rw [List.set_cons_succ, List.flatMap_cons, List.flatMap_cons, ← ih]
    have e : (i + 1) * 5 + 4 = (enRo y).length + (i * 5 + 4) := by rw [enRo_len]; omega
    rw [e, List.set_append_right _ _ (Nat.le_add_right _ _), Nat.add_sub_cancel_left]
theorem set_until {w : World} {base g n cap : Nat} {out : List Ro} {i : Nat} {r : Ro} (h : w.ownsRow base 51 5 (.slice (some ⟨g, 0, none⟩) n cap) out.length (out.flatMap enRo)) (hi : out[i]? = some r) (x : Int) :
    w.cell? ⟨g, i * 5 + 4, none⟩ = some (.int .i64 r.f2) ∧ w.frozen? ⟨g, i * 5 + 4, none⟩ = false ∧
      (w.setCell ⟨g, i * 5 + 4, none⟩ (.int .i64 x)).ownsRow base 51 5 (.slice (some ⟨g, 0, none⟩) n cap) (out.set i ⟨r.f0, r.f1, x⟩).length ((out.set i ⟨r.f0, r.f1, x⟩).flatMap enRo) := by
  obtain ⟨h1, h2⟩ := h
  rcases h2 with ⟨h, _⟩ | ⟨g', cap', cur, hv, hb, hg, hn, h3, h4, h5⟩
  · cases h
  · cases hv
    have hlt := lt_of_get hi
    have hidx : i * 5 + 4 < out.length * 5 := by omega
    have hget : cur[i * 5 + 4]? = some (.int .i64 r.f2) := by
      have h6 : (cur.toList.take (out.length * 5))[i * 5 + 4]? = (out.flatMap enRo)[i * 5 + 4]? := by rw [h5]
      rw [List.getElem?_take_of_lt hidx, Array.getElem?_toList] at h6
      rw [h6]
      have h7 := get_flat (enc := enRo) (k := 5) enRo_len out i 4 hlt (by omega)
      have h8 : i * 5 + 4 < (out.flatMap enRo).length := by rw [len_flat enRo_len]; exact hidx
      have h9 : out[i]! = r := by simp [hi]
      rw [h9] at h7
      rw [List.getElem?_eq_getElem h8]
      rw [getElem!_pos (out.flatMap enRo) _ h8] at h7
      rw [h7]; rfl
    refine ⟨(blk_cell hg _).trans hget, blk_frozen hg _, by rw [len_flat enRo_len], .inr ⟨g, cap, cur.setIfInBounds (i * 5 + 4) (.int .i64 x), by simp, hb, ?_, by simpa using hn, h3, by simpa using h4, ?_⟩⟩
    · rw [setCell_eq]
      simp [mapBlock, Array.getElem?_modify, hg, onCells]
    · rw [List.length_set, Array.toList_setIfInBounds, List.take_set, h5, flat_set x out i r hi]

theorem MapIs.no {w : World} {b : Nat} {m : List (T × Int)} (h : MapIs w b m) : ∀ cs q fr, w.heap[b]? ≠ some (.cells cs q fr) := by
  obtain ⟨es, clock, h1, _⟩ := h
  exact fun _ _ _ e => (by rw [h1] at e; cases e)

set_option maxHeartbeats 4000000 in
set_option maxRecDepth 100000 in
theorem watch_Rows.calls (A0 : Option Addr) (c0 : Nat) (l0 : List Ch) (r : List Ro) (w : World) (hr0 : Kd.C k29 w A0 l0.length l0) (hc0 : l0.length ≤ c0) (h : watch_Rows.f l0 = some r) :
    Calls Try.prog 7 #[.slice A0 l0.length c0] w fun e w' => ∃ v0_ : Value, e = .returned (v0_) ∧ Kd.R k51 51 w' w.heap.size (fun _ => True) v0_ r ∧ Below w.heap.size w w' := by
  obtain ⟨ht, rfl⟩ : l0.length ≤ 1073741824 ∧ msort ltRo (rowsL l0) = r := by
    unfold watch_Rows.f tiny at h
    split at h
    · rename_i h1
      exact ⟨of_decide_eq_true h1, Option.some.inj h⟩
    · cases h
  have HR0 : Aside (Kd.C k29 w A0 l0.length l0) := hr0
  clear hr0 hc0 h
  have hmm := @run_makeMap Try.prog
  go_enter Try.func7, Try.ntmps7
  go_wp2
  clear hmm
  obtain ⟨B, hB⟩ : ∃ B, B = w.heap.size := ⟨_, rfl⟩
  have S0 : Aside (MapIs (w.alloc (.map #[] 0)) B [] ∧ Below B w (w.alloc (.map #[] 0)) ∧ B < (w.alloc (.map #[] 0)).heap.size) := by
    subst hB; exact ⟨MapIs.made w, (Below.refl _ w).alloc (Nat.le_refl _) _, by simp⟩
  rw [← hB]
  have HBe : Hid (B = w.heap.size) := hB
  clear hB
  go_loopg [3, 12] l0.length (fun gk s3 s12 wr => ∃ (i : Nat) (m : List (T × Int)) (out : List Ro), s12 = .int .i64 i ∧ i ≤ l0.length ∧ l0.length - i ≤ gk ∧ Hid (out = rowsL (l0.take i) ∧ Inv out m) ∧ Aside (MapIs wr B m ∧ Below B w wr ∧ B < wr.heap.size) ∧ Aside (Kd.R k51 51 wr B (fun _ => True) s3 out))
  case atStart => exact ⟨0, [], [], rfl, Nat.zero_le _, Nat.le_refl _, ⟨rfl, by simp, by simp⟩, S0, Kd.R_nil _ _ _ _ _⟩
  case round =>
    clear S0
    obtain ⟨i, m, out, rfl, hi, hg, HI, S1, HO⟩ := hrel
    have hol : out.length ≤ 1073741824 := by
      rw [HI.out.1]
      have := rows_len (l0.take i)
      have := List.length_take_le i l0
      omega
    by_cases hlt : i < l0.length
    · have hltz : (i : Int) < (l0.length : Int) := by omega
      obtain ⟨ad, x, hA, hx, h0, h1, h2, h3, h4⟩ := el_Ch HR0.out rfl i hlt
      have HBl : Below w.heap.size w wr := by rw [← HBe.out]; exact S1.out.2.1
      replace h0 := cell_below HBl h0
      replace h1 := cell_below HBl h1
      replace h2 := cell_below HBl h2
      replace h3 := cell_below HBl h3
      replace h4 := cell_below HBl h4
      clear HBl
      subst hA
      have hstep : rowsL (l0.take (i + 1)) = rowsDo out x := by
        unfold rowsL
        rw [take_step l0 i x hx, List.foldl_append, HI.out.1]; rfl
      obtain ⟨bx, hbxe⟩ : ∃ o, o = Obj.cells #[.int .i64 x.f0, .bool x.f1.f0, .string x.f1.f1.f0, .string x.f1.f1.f1, .string x.f1.f1.f2] 29 := ⟨_, rfl⟩
      have hM := S1.out.1.alloc bx
      have hBl := S1.out.2.1.alloc (by have := S1.out.2.2; omega) bx
      have hBs : B < (wr.alloc bx).heap.size := by have := S1.out.2.2; simp; omega
      have hO := Kd.R_alloc HO.out bx
      have hlook := look_T hM x.f1.f1
      have hnB := ne_row (fl_Ro hO) hM.no
      cases hq : mfind x.f1.f1 m 0 with
      | none =>
        rw [hq] at hlook
        have hany := HI.out.2.no hq
        by_cases hd : x.f1.f0 = true
        · -- not there, taken away: passed over
          have HI2 : Hid (out = rowsL (l0.take (i + 1)) ∧ Inv out m) := ⟨by rw [hstep, rowsDo, if_neg (by simp [hany]), if_pos hd], HI.out.2⟩
          have S2 : Aside (MapIs (wr.alloc bx) B m ∧ Below B w (wr.alloc bx) ∧ B < (wr.alloc bx).heap.size) := ⟨hM, hBl, hBs⟩
          have HO2 : Aside (Kd.R k51 51 (wr.alloc bx) B (fun _ => True) u3 out) := hO
          subst hbxe
          clear hM hBl hBs hO HI S1 HO hx hstep hq hany hnB
          obtain ⟨x0, x1, t0, t1, t2⟩ := x
          dsimp only at hd h0 h1 h2 h3 h4 hlook HO2 S2
          subst hd
          simp only [kv] at hlook
          go_wp2
          go_roundg (l0.length - (i + 1))
          case measure => omega
          case rel => exact ⟨i + 1, m, out, by first | rfl | go_num, by omega, Nat.le_refl _, HI2, S2.out, HO2.out⟩
        · -- not there, put: a new row
          have hd' : x.f1.f0 = false := by simpa using hd
          have HI2 : Hid (out ++ [⟨x.f1.f1, x.f0, 0⟩] = rowsL (l0.take (i + 1)) ∧ Inv (out ++ [⟨x.f1.f1, x.f0, 0⟩]) (mput x.f1.f1 (out.length : Nat) m)) := ⟨by rw [hstep, rowsDo, if_neg (by simp [hany]), if_neg hd], HI.out.2.put hq x.f0⟩
          obtain ⟨w1, hrun, hM1, hg1⟩ := put_T hM x.f1.f1 ((out.length : Nat) : Int)
          have hb1 := blk_grown (blk_new wr bx) hg1 (by have := S1.out.2.2; simp; omega)
          have hO1 := Kd.R_grown1 hO rfl hg1 hnB
          have hB1 := below_map hBl (by omega) hg1 (Nat.le_refl _)
          have hs1 : B < w1.heap.size := by have := hg1.size; omega
          have HW : Aside (MapIs w1 B (mput x.f1.f1 (out.length : Nat) m) ∧ Below B w w1 ∧ B < w1.heap.size ∧ Kd.R k51 51 w1 B (fun _ => True) u3 out ∧ some B ≠ u3.ownBlock ∧ out.length < 2147483648) := ⟨hM1, hB1, hs1, hO1, hnB, by omega⟩
          obtain ⟨A, c, hu⟩ : ∃ A c, u3 = .slice A out.length c := by
            rcases Go.Joins.ownsRow_forms (fl_Ro hO) with ⟨h, hn⟩ | ⟨g, cap, h⟩
            · exact ⟨none, 0, by rw [h, hn]⟩
            · exact ⟨_, _, h⟩
          subst hbxe
          clear hM hBl hBs hO HI S1 HO hx hstep hq hany hnB hM1 hg1 hO1 hB1 hs1
          obtain ⟨x0, x1, t0, t1, t2⟩ := x
          dsimp only at hd' h0 h1 h2 h3 h4 hlook HW HI2 hrun hb1
          subst hd'
          subst hu
          simp only [kv] at hlook hrun
          have e0 : w1.cell? ⟨wr.heap.size, 0, none⟩ = some (.int .i64 x0) := (blk_cell hb1 0).trans rfl
          have e2 : w1.cell? ⟨wr.heap.size, 2, none⟩ = some (.string t0) := (blk_cell hb1 2).trans rfl
          have e3 : w1.cell? ⟨wr.heap.size, 3, none⟩ = some (.string t1) := (blk_cell hb1 3).trans rfl
          have e4 : w1.cell? ⟨wr.heap.size, 4, none⟩ = some (.string t2) := (blk_cell hb1 4).trans rfl
          clear hb1
          go_wp2_with (at_builtin; refine app_Ro (w0 := w) B rfl (.tmp 59) (.tmp 66) rfl (.slice A out.length c) out ⟨⟨t0, t1, t2⟩, x0, 0⟩ rfl (by first | (go_simp; done) | (go_simp; rfl)) HW.out.2.2.2.1 HW.out.2.1 (by have := HW.out.2.2.1; omega) HW.out.2.2.2.2.2 ?_; intro v2 w2 ho hb hg2 hat; have HO2 : Aside _ := ho; have HB2 : Aside _ := hb; have HG2 : Aside _ := hg2; clear ho hb hg2 hat)
          go_roundg (l0.length - (i + 1))
          case measure => omega
          case rel => exact ⟨i + 1, _, _, by first | rfl | go_num, by omega, Nat.le_refl _, HI2, ⟨HW.out.1.kept (HG2.out.block _ HW.out.2.2.1 HW.out.2.2.2.2.1), HB2.out, by have := HG2.out.size; have := HW.out.2.2.1; omega⟩, HO2.out⟩
      | some q =>
        obtain ⟨p, v⟩ := q
        rw [hq] at hlook
        obtain ⟨i0, r, rfl, hi0, hr1, hr2, hany, hu⟩ := HI.out.2.yes hq
        by_cases hd : x.f1.f0 = true
        · -- there, taken away: its row is closed
          have hlt0 := lt_of_get hi0
          obtain ⟨g, cap, hform⟩ := Go.Joins.ownsRow_form (fl_Ro hO) (by omega)
          have hown := fl_Ro hO
          rw [hform] at hown
          obtain ⟨hc1, hc2, hown2⟩ := set_until hown hi0 x.f0
          have hgB : g ≠ B := by
            rintro rfl
            rw [hform] at hnB
            exact hnB (by simp [Value.ownBlock])
          have hgx : g ≠ wr.heap.size := by
            have h5 := (fl_Ro HO.out).lt g (by rw [hform]; simp [Value.ownBlock])
            omega
          have hgb : B ≤ g := ((fl_Ro HO.out).lt g (by rw [hform]; simp [Value.ownBlock])).1
          have hM1 := hM.kept (Below.heap_setCell (wr.alloc bx) ⟨g, i0 * 5 + 4, none⟩ (.int .i64 x.f0) B (Ne.symm hgB))
          have hB1 := hBl.setCell (p := ⟨g, i0 * 5 + 4, none⟩) hgb (.int .i64 x.f0)
          have hs1 : B < ((wr.alloc bx).setCell ⟨g, i0 * 5 + 4, none⟩ (.int .i64 x.f0)).heap.size := by simpa using hBs
          have hO1 := R_Ro hown2
          have hstep2 : rowsL (l0.take (i + 1)) = out.set i0 ⟨r.f0, r.f1, x.f0⟩ := by
            rw [hstep, rowsDo, if_pos hany, if_pos hd, close_map hi0 hr1 hr2 hu]
          have hi0z : (i0 : Int) < (out.length : Int) := by omega
          have hi0p : (0 : Int) ≤ (i0 : Int) := by omega
          have hx0 : ((wr.alloc bx).setCell ⟨g, i0 * 5 + 4, none⟩ (.int .i64 x.f0)).heap[wr.heap.size]? = some bx := (Below.heap_setCell _ _ _ _ (Ne.symm hgx)).trans (blk_new wr bx)
          by_cases hz : x.f0 = 0
          · have hsame : out.set i0 ⟨r.f0, r.f1, x.f0⟩ = out := by rw [hz]; exact set_same hi0 hr2
            have HI2 : Hid (out = rowsL (l0.take (i + 1)) ∧ Inv out m) := ⟨by rw [hstep2, hsame], HI.out.2⟩
            rw [hsame] at hO1
            have S2 : Aside (MapIs _ B m ∧ Below B w _ ∧ B < _) := ⟨hM1, hB1, hs1⟩
            have HO2 : Aside (Kd.R k51 51 _ B (fun _ => True) (.slice (some ⟨g, 0, none⟩) out.length cap) out) := hO1
            have e0 : ((wr.alloc bx).setCell ⟨g, i0 * 5 + 4, none⟩ (.int .i64 x.f0)).cell? ⟨wr.heap.size, 0, none⟩ = some (.int .i64 x.f0) := by subst hbxe; exact (blk_cell hx0 0).trans rfl
            have hdz : (x.f0 != 0) = false := by simp [hz]
            subst hbxe
            clear hM hBl hBs hO HI S1 HO hx hstep hq hany hnB hM1 hO1 hB1 hs1 hstep2 hown hown2 hu hsame hx0
            obtain ⟨x0, x1, t0, t1, t2⟩ := x
            dsimp only at hd hz hdz h0 h1 h2 h3 h4 hlook HO2 S2 e0 hc1 hc2
            subst hd
            subst hz
            subst hform
            simp only [kv] at hlook
            go_wp2
            go_roundg (l0.length - (i + 1))
            case measure => omega
            case rel => exact ⟨i + 1, m, out, by first | rfl | go_num, by omega, Nat.le_refl _, HI2, S2.out, HO2.out⟩
          · obtain ⟨w2, hrun2, hM2, hg2⟩ := del_T hM1 x.f1.f1
            have HI2 : Hid (out.set i0 ⟨r.f0, r.f1, x.f0⟩ = rowsL (l0.take (i + 1)) ∧ Inv (out.set i0 ⟨r.f0, r.f1, x.f0⟩) (mdel x.f1.f1 m)) := ⟨hstep2.symm, HI.out.2.close hi0 hr1 hu x.f0 hz⟩
            have hnB2 : some B ≠ (Value.slice (some ⟨g, 0, none⟩) out.length cap).ownBlock := by
              intro e; simp [Value.ownBlock] at e; exact hgB e.symm
            have hO2 := Kd.R_grown1 hO1 rfl hg2 hnB2
            have hB2 := below_map hB1 (by omega) hg2 (Nat.le_refl _)
            have S2 : Aside (MapIs w2 B (mdel x.f1.f1 m) ∧ Below B w w2 ∧ B < w2.heap.size) := ⟨hM2, hB2, by have := hg2.size; omega⟩
            have HO2 : Aside (Kd.R k51 51 w2 B (fun _ => True) (.slice (some ⟨g, 0, none⟩) out.length cap) (out.set i0 ⟨r.f0, r.f1, x.f0⟩)) := hO2
            have e0 : ((wr.alloc bx).setCell ⟨g, i0 * 5 + 4, none⟩ (.int .i64 x.f0)).cell? ⟨wr.heap.size, 0, none⟩ = some (.int .i64 x.f0) := by subst hbxe; exact (blk_cell hx0 0).trans rfl
            have e2 : ((wr.alloc bx).setCell ⟨g, i0 * 5 + 4, none⟩ (.int .i64 x.f0)).cell? ⟨wr.heap.size, 2, none⟩ = some (.string x.f1.f1.f0) := by subst hbxe; exact (blk_cell hx0 2).trans rfl
            have e3 : ((wr.alloc bx).setCell ⟨g, i0 * 5 + 4, none⟩ (.int .i64 x.f0)).cell? ⟨wr.heap.size, 3, none⟩ = some (.string x.f1.f1.f1) := by subst hbxe; exact (blk_cell hx0 3).trans rfl
            have e4 : ((wr.alloc bx).setCell ⟨g, i0 * 5 + 4, none⟩ (.int .i64 x.f0)).cell? ⟨wr.heap.size, 4, none⟩ = some (.string x.f1.f1.f2) := by subst hbxe; exact (blk_cell hx0 4).trans rfl
            have hdz : (x.f0 != 0) = true := by simp [hz]
            subst hbxe
            clear hM hBl hBs hO HI S1 HO hx hstep hq hany hnB hM1 hO1 hB1 hs1 hstep2 hown hown2 hu hx0 hM2 hg2 hnB2 hO2 hB2
            obtain ⟨x0, x1, t0, t1, t2⟩ := x
            dsimp only at hd hz hdz h0 h1 h2 h3 h4 hlook hrun2 HO2 S2 HI2 e0 e2 e3 e4 hc1 hc2
            subst hd
            subst hform
            simp only [kv] at hlook hrun2
            go_wp2
            go_roundg (l0.length - (i + 1))
            case measure => omega
            case rel => exact ⟨i + 1, _, _, by first | rfl | go_num, by omega, Nat.le_refl _, HI2, S2.out, HO2.out⟩
        · -- there, put: passed over
          have hd' : x.f1.f0 = false := by simpa using hd
          have HI2 : Hid (out = rowsL (l0.take (i + 1)) ∧ Inv out m) := ⟨by rw [hstep, rowsDo, if_pos hany, if_neg hd], HI.out.2⟩
          have S2 : Aside (MapIs (wr.alloc bx) B m ∧ Below B w (wr.alloc bx) ∧ B < (wr.alloc bx).heap.size) := ⟨hM, hBl, hBs⟩
          have HO2 : Aside (Kd.R k51 51 (wr.alloc bx) B (fun _ => True) u3 out) := hO
          subst hbxe
          clear hM hBl hBs hO HI S1 HO hx hstep hq hany hnB hu
          obtain ⟨x0, x1, t0, t1, t2⟩ := x
          dsimp only at hd' h0 h1 h2 h3 h4 hlook HO2 S2
          subst hd'
          simp only [kv] at hlook
          go_wp2
          go_roundg (l0.length - (i + 1))
          case measure => omega
          case rel => exact ⟨i + 1, m, out, by first | rfl | go_num, by omega, Nat.le_refl _, HI2, S2.out, HO2.out⟩
    · have hltz : ¬ (i : Int) < (l0.length : Int) := by omega
      have HACC : Hid (out = rowsL l0) := by show _ = _; rw [HI.out.1, List.take_of_length_le (by omega)]
      have hs := sort_Ro B u3 out wr (fl_Ro HO.out) (by omega)
      have HSo : Hid (type_of% hs) := hs
      have HF : Aside (wr.ownsRow B 51 5 u3 out.length (out.flatMap enRo)) := fl_Ro HO.out
      clear hs HI HO
      go_wp2_with (go_at_call 21; refine HSo.out.mono ?_; rintro e w1 ⟨rfl, ho1, hg1⟩; have HO1 : Aside _ := ho1; have HG1 : Aside _ := hg1; clear ho1 hg1)
      go_ret
      refine ⟨_, rfl, ?_, ?_⟩
      · rw [← HACC.out, ← HBe.out]; exact R_Ro HO1.out
      · rw [← HBe.out]; exact below_grown S1.out.2.1 HG1.out (by have := S1.out.2.2; omega) HF.out
end Go.Proofs.Ytgjkidclpehnjaa.Pr

namespace Go.Proofs.Ytgjkidclpehnjaa.Pr
open Go.Proofs.Ytgjkidclpehnjaa Go.Sort

theorem msort_self {α : Type} {lt : α → α → Bool} (hS : SWO lt) {l : List α} (h : SortedL lt l) : msort lt l = l := (eq_msort hS h (Stab.refl l)).symm
theorem swoT : SWO ltT := cmp_T.swo
theorem swoCh : SWO ltCh := cmp_Ch.swo
theorem swoRo : SWO ltRo := cmp_Ro.swo
theorem swoMu : SWO ltMu := cmp_Mu.swo
theorem ltT_conn {a b : T} (h1 : ltT a b = false) (h2 : ltT b a = false) : a = b := by
  have a1 := cmp_T.anti a b
  unfold ltT ltOf at h1 h2
  rw [decide_eq_false_iff_not] at h1 h2
  exact cmpT_zero.1 (by omega)
theorem ltT_asymm {a b : T} (h : ltT a b = true) : ltT b a = false := by
  cases hq : ltT b a with
  | false => rfl
  | true => have := swoT.trans a b a h hq; rw [swoT.irrefl] at this; cases this
/-- Each below each that comes behind it. -/
def Strict (l : List T) : Prop := l.Pairwise (fun x y => ltT x y = true)
theorem Strict.sorted {l : List T} (h : Strict l) : SortedL ltT l := h.imp (fun h => ltT_asymm h)
theorem Strict.nodup {l : List T} (h : Strict l) : l.Nodup := h.imp (fun {a b} h e => by subst e; rw [swoT.irrefl] at h; cases h)
theorem strict_of {l : List T} (h1 : SortedL ltT l) (h2 : l.Nodup) : Strict l := by
  induction l with
  | nil => exact List.Pairwise.nil
  | cons x l ih =>
    rw [SortedL, List.pairwise_cons] at h1
    rw [List.nodup_cons] at h2
    refine List.pairwise_cons.2 ⟨fun y hy => ?_, ih h1.2 h2.2⟩
    cases hq : ltT x y with
    | true => rfl
    | false => exact absurd hy (by rw [← ltT_conn hq (h1.1 y hy)]; exact h2.1)
theorem compactFrom_len {α : Type} [DecidableEq α] : ∀ (l : List α) (p : α), (compactFrom p l).length ≤ l.length
  | [], p => by simp [compactFrom]
  | y :: l, p => by
    rw [compactFrom]
    split
    · exact Nat.le_trans (compactFrom_len l p) (by simp)
    · simp [compactFrom_len l y]
theorem compactL_len {α : Type} [DecidableEq α] (l : List α) : (compactL l).length ≤ l.length := by
  cases l with
  | nil => simp [compactL]
  | cons x l => simp [compactL, compactFrom_len l x]
theorem compactFrom_mem {α : Type} [DecidableEq α] (z : α) : ∀ (l : List α) (p : α), z ∈ p :: compactFrom p l ↔ z ∈ p :: l
  | [], p => by simp [compactFrom]
  | y :: l, p => by
    rw [compactFrom]
    split
    · rename_i h
      subst h
      rw [compactFrom_mem z l y]; simp
    · have := compactFrom_mem z l y
      rw [List.mem_cons, this]; simp
theorem compactL_mem {α : Type} [DecidableEq α] (z : α) (l : List α) : z ∈ compactL l ↔ z ∈ l := by
  cases l with
  | nil => simp [compactL]
  | cons x l => exact compactFrom_mem z l x
theorem msort_mem {α : Type} {lt : α → α → Bool} (l : List α) (z : α) : z ∈ msort lt l ↔ z ∈ l := (msort_perm lt l).mem_iff
theorem msort_len {α : Type} {lt : α → α → Bool} (l : List α) : (msort lt l).length = l.length := (msort_perm lt l).length_eq

theorem tiny_of {n : Nat} (h : n ≤ 1073741824) : tiny n = true := decide_eq_true h
/-- What At hands back. -/
def atL (l : List Ro) (a : Int) : List T := compactL (msort ltT ((l.filter (thereAt a)).map (·.f0)))
theorem At_eq (l : List Ro) (a : Int) (hl : l.length ≤ 1073741824) : watch_At.f l a = some (atL l a) := by
  unfold watch_At.f atL
  rw [if_pos (tiny_of hl)]
end Go.Proofs.Ytgjkidclpehnjaa.Pr

namespace Go.Proofs.Ytgjkidclpehnjaa.Pr
open Go.RowKit Go.Proofs.YtgjkidclpehnjaaW.PrintWords Go.Proofs.YtgjkidclpehnjaaW.PrintLast Go.Proofs.YtgjkidclpehnjaaW.PrintMore
attribute [local go_sem] max2_int min2_int max_two min_two max_three min_three max_four min_four   -- for this text's walks alone
set_option linter.unusedVariables false
set_option linter.unusedSimpArgs false

attribute [local go_sem high] eqA25 eqA51
-- told from outside: function 7 (watch_Rows)

-- told from outside: function 8 (watch_Changes)

-- told from outside: function 18 (watch_At)

-- told from outside: function 19 (watch_Back)

/-! ### porterlaw22_viewer: function 20 -/
def porterlaw22_viewer.f (a0 : ByteArray) : Option (ByteArray × ByteArray × ByteArray) := some ((⟨#[100, 111, 99, 58, 97]⟩ : ByteArray), (⟨#[118, 105, 101, 119, 101, 114]⟩ : ByteArray), a0)
set_option maxHeartbeats 8000000 in
set_option maxRecDepth 100000 in
theorem porterlaw22_viewer.calls (a0 : ByteArray) (r1 : ByteArray) (r2 : ByteArray) (r3 : ByteArray) (w : World) (h : porterlaw22_viewer.f a0 = some (r1, r2, r3)) :
    Calls Try.prog 20 #[.string a0] w fun e w' => e = .returned (.agg #[.string r1, .string r2, .string r3]) ∧ Below w.heap.size w w' := by
  have hu25 := Try.underlying25
  have HB := Aside0.mk (Below.refl w.heap.size w)
  have H : (some ((⟨#[100, 111, 99, 58, 97]⟩ : ByteArray), (⟨#[118, 105, 101, 119, 101, 114]⟩ : ByteArray), a0)) = some (r1, r2, r3) := h
  clear h
  simp only [Option.some.injEq, Prod.mk.injEq] at H
  obtain ⟨rfl, rfl, rfl⟩ := H
  go_enter Try.func20, Try.ntmps20
  go_wp2_with (first | ((with_reducible refine gate_dst (N := 2) rfl ?_); refine box_event ?hg (N := 2) ?hd (cs := #[.string (⟨#[]⟩ : ByteArray), .string (⟨#[]⟩ : ByteArray), .string (⟨#[]⟩ : ByteArray)]) (t := 25) ?hr ?_; (case hd => rfl); (case hg => rfl); (case hr => first | (go_simp; done) | (go_simp; rfl)); intro gb101 hg w2 hbox hb; have n0_ := Aside0.mk (below_step (by repeat (first | (with_reducible first | exact HB.out | apply below_alloc | apply pw_below_drewN | apply below_drew1) | exact HB.out)) hb); have n1_ := Aside0.mk (hbox); have n2_ := Aside0.mk ((by rw [hg]; exact (below_size (by repeat (first | (with_reducible first | exact HB.out | apply below_alloc | apply pw_below_drewN | apply below_drew1) | exact HB.out))) : w.heap.size ≤ gb101)); have n3_ := Aside0.mk ((by rw [hg]; exact (below_size (by repeat (first | (with_reducible first | exact HB.out | apply below_alloc | apply pw_below_drewN | apply below_drew1) | exact HB.out))) : w.heap.size ≤ gb101)); clear HB; have HB := n0_; have BK101 := n1_; have GW101 := n2_; have GE101 := n3_; clear n0_ n1_ n2_ n3_; clear hb hbox hg; have hcz3_0 : w2.cell? ⟨gb101, 0, none⟩ = some (.string (⟨#[]⟩ : ByteArray)) := (blk_cell BK101.out 0).trans rfl; have hcz3_1 : w2.cell? ⟨gb101, 1, none⟩ = some (.string (⟨#[]⟩ : ByteArray)) := (blk_cell BK101.out 1).trans rfl; have hcz3_2 : w2.cell? ⟨gb101, 2, none⟩ = some (.string (⟨#[]⟩ : ByteArray)) := (blk_cell BK101.out 2).trans rfl; have hfz3_0 := blk_frozen BK101.out 0; have hfz3_1 := blk_frozen BK101.out 1; have hfz3_2 := blk_frozen BK101.out 2))
  refine bodyPost_ret (results_cell_row rfl _ _ gb101 25 #[.string (⟨#[100, 111, 99, 58, 97]⟩ : ByteArray), .string (⟨#[118, 105, 101, 119, 101, 114]⟩ : ByteArray), .string a0] (0, 0) _ rfl (by (with_reducible repeat (first | refine blk_drewN ?_ _ | refine blk_drew ?_ | refine blk_alloc ?_ _)); refine blk_put (cs := #[.string (⟨#[100, 111, 99, 58, 97]⟩ : ByteArray), .string (⟨#[118, 105, 101, 119, 101, 114]⟩ : ByteArray), .string (⟨#[]⟩ : ByteArray)]) ?_ 2 _ rfl; (with_reducible repeat (first | refine blk_drewN ?_ _ | refine blk_drew ?_ | refine blk_alloc ?_ _)); refine blk_put (cs := #[.string (⟨#[100, 111, 99, 58, 97]⟩ : ByteArray), .string (⟨#[]⟩ : ByteArray), .string (⟨#[]⟩ : ByteArray)]) ?_ 1 _ rfl; (with_reducible repeat (first | refine blk_drewN ?_ _ | refine blk_drew ?_ | refine blk_alloc ?_ _)); refine blk_put (cs := #[.string (⟨#[]⟩ : ByteArray), .string (⟨#[]⟩ : ByteArray), .string (⟨#[]⟩ : ByteArray)]) ?_ 0 _ rfl; (with_reducible repeat (first | refine blk_drewN ?_ _ | refine blk_drew ?_ | refine blk_alloc ?_ _)); exact BK101.out) Try.underlying25 rfl (by kernel_rfl)) rfl ?_
  exact ⟨by first | rfl | (simp [errW_none, errW_some] <;> rfl) | (simp [*, errW_none, errW_some] <;> rfl), by repeat (first | (with_reducible first | exact HB.out | apply below_alloc | apply pw_below_drewN | apply below_drew1 | refine below_set ?_ GE101.out) | exact HB.out)⟩

/-! ### porterlaw22_awake: function 6 -/
def porterlaw22_awake.f  : Option (Bool) := (porterlaw22_viewer.f (⟨#[117, 115, 101, 114, 58, 97, 110, 110]⟩ : ByteArray)).bind fun bt102 => ((some (([(⟨(⟨bt102.1, bt102.2.1, bt102.2.2⟩ : S25), 3, 5⟩ : S51)] : List (S51)) : List (S51))).bind fun y105 => ((watch_Changes.f y105 0 9).bind fun t108 => (if (t108.length : Int) = 2 then (if 0 < (t108.length : Int) then (if ((rd_T29 t108 0).f0) = 3 then (if ((rd_T29 t108 0).f1.f0 = true) then (some false) else (if 1 < (t108.length : Int) then (if ((rd_T29 t108 1).f0) = 5 then (if (rd_T29 t108 1).f1.f0 = true then ((watch_At.f y105 4).bind fun t115 => (if (t115.length : Int) = 1 then ((watch_Rows.f t108).bind fun t118 => (if (t118.length : Int) = 1 then ((watch_Back.f t108).bind fun t121 => (some ((t121.length : Int) == 2))) else (some false))) else (some false))) else (some false)) else (some false)) else (none))) else (some false)) else (none)) else (some false))))
section
open Go.Sort
theorem awake_yes : porterlaw22_awake.f = some true := by
  unfold porterlaw22_awake.f porterlaw22_viewer.f
  simp only [Option.bind_some]
  generalize hB1 : (⟨#[100, 111, 99, 58, 97]⟩ : ByteArray) = b1
  generalize hB2 : (⟨#[118, 105, 101, 119, 101, 114]⟩ : ByteArray) = b2
  generalize hB3 : (⟨#[117, 115, 101, 114, 58, 97, 110, 110]⟩ : ByteArray) = b3
  clear hB1 hB2 hB3
  generalize (⟨b1, b2, b3⟩ : T) = t
  have h1 : watch_Changes.f [⟨t, 3, 5⟩] 0 9 = some [⟨3, ⟨false, t⟩⟩, ⟨5, ⟨true, t⟩⟩] := by
    unfold watch_Changes.f
    rw [if_pos (tiny_of (by simp))]
    have e : [(⟨t, 3, 5⟩ : Ro)].flatMap (chOf 0 9) = [⟨3, ⟨false, t⟩⟩, ⟨5, ⟨true, t⟩⟩] := by simp [chOf, chIf]
    rw [e, msort_self swoCh]
    refine List.pairwise_pair.2 ?_
    simp [ltCh, ltOf, cmpCh, lexi, Lib.compareInt]
  have h2 : watch_At.f [⟨t, 3, 5⟩] 4 = some [t] := by
    rw [At_eq _ _ (by simp)]
    unfold atL
    have e : ([(⟨t, 3, 5⟩ : Ro)].filter (thereAt 4)).map (·.f0) = [t] := by simp [thereAt]
    rw [e, msort_self swoT (by simp [SortedL])]
    rfl
  have h3 : watch_Rows.f [⟨3, ⟨false, t⟩⟩, ⟨5, ⟨true, t⟩⟩] = some [⟨t, 3, 5⟩] := by
    unfold watch_Rows.f
    rw [if_pos (tiny_of (by simp))]
    have e : rowsL [⟨3, ⟨false, t⟩⟩, ⟨5, ⟨true, t⟩⟩] = [⟨t, 3, 5⟩] := by simp [rowsL, rowsDo, openAt]
    rw [e, msort_self swoRo (by simp [SortedL])]
  have h4 : watch_Back.f [⟨3, ⟨false, t⟩⟩, ⟨5, ⟨true, t⟩⟩] = some [⟨5, ⟨false, t⟩⟩, ⟨3, ⟨true, t⟩⟩] := by
    unfold watch_Back.f
    rw [if_pos (tiny_of (by simp))]
    simp [flipCh]
  rw [h1]
  simp [h2, h3, h4, rd_T29]
end
set_option maxHeartbeats 8000000 in
set_option maxRecDepth 100000 in
theorem porterlaw22_awake.calls  (r : Bool) (w : World) (h : porterlaw22_awake.f  = some r) :
    Calls Try.prog 6 #[] w fun e w' => e = .returned (.bool r) ∧ Below w.heap.size w w' := by
  have hT := Aside0.mk (Option.some.inj (h.symm.trans awake_yes))
  have hu51 := Try.underlying51
  have HB := Aside0.mk (Below.refl w.heap.size w)
  have H : ((porterlaw22_viewer.f (⟨#[117, 115, 101, 114, 58, 97, 110, 110]⟩ : ByteArray)).bind fun bt102 => ((some (([(⟨(⟨bt102.1, bt102.2.1, bt102.2.2⟩ : S25), 3, 5⟩ : S51)] : List (S51)) : List (S51))).bind fun y105 => ((watch_Changes.f y105 0 9).bind fun t108 => (if (t108.length : Int) = 2 then (if 0 < (t108.length : Int) then (if ((rd_T29 t108 0).f0) = 3 then (if ((rd_T29 t108 0).f1.f0 = true) then (some false) else (if 1 < (t108.length : Int) then (if ((rd_T29 t108 1).f0) = 5 then (if (rd_T29 t108 1).f1.f0 = true then ((watch_At.f y105 4).bind fun t115 => (if (t115.length : Int) = 1 then ((watch_Rows.f t108).bind fun t118 => (if (t118.length : Int) = 1 then ((watch_Back.f t108).bind fun t121 => (some ((t121.length : Int) == 2))) else (some false))) else (some false))) else (some false)) else (some false)) else (none))) else (some false)) else (none)) else (some false))))) = some r := h
  clear h
  replace H := Option.bind_eq_some_iff.mp H
  obtain ⟨⟨t102, t103, t104⟩, A10, H⟩ := H
  replace H : ((some (([(⟨(⟨t102, t103, t104⟩ : S25), 3, 5⟩ : S51)] : List (S51)) : List (S51))).bind fun y105 => ((watch_Changes.f y105 0 9).bind fun t108 => (if (t108.length : Int) = 2 then (if 0 < (t108.length : Int) then (if ((rd_T29 t108 0).f0) = 3 then (if ((rd_T29 t108 0).f1.f0 = true) then (some false) else (if 1 < (t108.length : Int) then (if ((rd_T29 t108 1).f0) = 5 then (if (rd_T29 t108 1).f1.f0 = true then ((watch_At.f y105 4).bind fun t115 => (if (t115.length : Int) = 1 then ((watch_Rows.f t108).bind fun t118 => (if (t118.length : Int) = 1 then ((watch_Back.f t108).bind fun t121 => (some ((t121.length : Int) == 2))) else (some false))) else (some false))) else (some false)) else (some false)) else (none))) else (some false)) else (none)) else (some false)))) = some r := H
  have A1 := Aside0.mk A10
  clear A10
  obtain ⟨y105, hy105⟩ : ∃ y_ : List (S51), y_ = (([(⟨(⟨t102, t103, t104⟩ : S25), 3, 5⟩ : S51)] : List (S51))) := ⟨_, rfl⟩
  replace H : ((watch_Changes.f y105 0 9).bind fun t108 => (if (t108.length : Int) = 2 then (if 0 < (t108.length : Int) then (if ((rd_T29 t108 0).f0) = 3 then (if ((rd_T29 t108 0).f1.f0 = true) then (some false) else (if 1 < (t108.length : Int) then (if ((rd_T29 t108 1).f0) = 5 then (if (rd_T29 t108 1).f1.f0 = true then ((watch_At.f y105 4).bind fun t115 => (if (t115.length : Int) = 1 then ((watch_Rows.f t108).bind fun t118 => (if (t118.length : Int) = 1 then ((watch_Back.f t108).bind fun t121 => (some ((t121.length : Int) == 2))) else (some false))) else (some false))) else (some false)) else (some false)) else (none))) else (some false)) else (none)) else (some false))) = some r := by first | (rw [hy105]; with_reducible exact H) | (have H2_ := (Option.bind_some _ _).symm.trans H; rw [hy105]; with_reducible exact H2_) | (have H2_ := (Option.bind_some _ _).symm.trans H; with_reducible exact H2_) | with_reducible exact H | (rw [hy105]; exact H) | exact H
  have Ny105 := Aside0.mk hy105
  clear hy105
  replace H := Option.bind_eq_some_iff.mp H
  obtain ⟨t108, A20, H⟩ := H
  replace H : (if (t108.length : Int) = 2 then (if 0 < (t108.length : Int) then (if ((rd_T29 t108 0).f0) = 3 then (if ((rd_T29 t108 0).f1.f0 = true) then (some false) else (if 1 < (t108.length : Int) then (if ((rd_T29 t108 1).f0) = 5 then (if (rd_T29 t108 1).f1.f0 = true then ((watch_At.f y105 4).bind fun t115 => (if (t115.length : Int) = 1 then ((watch_Rows.f t108).bind fun t118 => (if (t118.length : Int) = 1 then ((watch_Back.f t108).bind fun t121 => (some ((t121.length : Int) == 2))) else (some false))) else (some false))) else (some false)) else (some false)) else (none))) else (some false)) else (none)) else (some false)) = some r := H
  have A2 := Aside0.mk A20
  clear A20
  by_cases c3 : (t108.length : Int) = 2
  · rw [if_pos c3] at H
    have c3b0 : ((t108.length : Int) == 2) = true := beq_iff_eq.mpr c3
    have c3b1 : ((t108.length : Int) != 2) = false := bne_eq_false_iff_eq.mpr c3
    clear c3
    by_cases c4 : 0 < (t108.length : Int)
    · rw [if_pos c4] at H
      have c4b0 : decide (0 < (t108.length : Int)) = true := decide_eq_true c4
      have c4b1 : decide (0 < t108.length) = true := decide_eq_true (by omega)
      clear c4
      by_cases c5 : ((rd_T29 t108 0).f0) = 3
      · rw [if_pos c5] at H
        have c5b0 : (((rd_T29 t108 0).f0) == 3) = true := beq_iff_eq.mpr c5
        have c5b1 : (((rd_T29 t108 0).f0) != 3) = false := bne_eq_false_iff_eq.mpr c5
        clear c5
        obtain ⟨bq6, hbq6⟩ : ∃ b_ : Bool, b_ = ((rd_T29 t108 0).f1.f0) := ⟨_, rfl⟩
        replace H : (if (bq6 = true) then (some false) else (if 1 < (t108.length : Int) then (if ((rd_T29 t108 1).f0) = 5 then (if (rd_T29 t108 1).f1.f0 = true then ((watch_At.f y105 4).bind fun t115 => (if (t115.length : Int) = 1 then ((watch_Rows.f t108).bind fun t118 => (if (t118.length : Int) = 1 then ((watch_Back.f t108).bind fun t121 => (some ((t121.length : Int) == 2))) else (some false))) else (some false))) else (some false)) else (some false)) else (none))) = some r := by rw [← hbq6] at H; exact H
        have Nbq6 := Aside0.mk hbq6
        clear hbq6
        by_cases c7 : (bq6 = true)
        · subst c7
          have H1 : (some false) = some r := by rw [if_pos rfl] at H; exact H
          clear H
          have H := H1
          clear H1
          exact absurd ((Option.some.inj H).trans hT.out) (by decide)
        · replace c7 := Bool.eq_false_iff.mpr c7
          subst c7
          have H1 : (if 1 < (t108.length : Int) then (if ((rd_T29 t108 1).f0) = 5 then (if (rd_T29 t108 1).f1.f0 = true then ((watch_At.f y105 4).bind fun t115 => (if (t115.length : Int) = 1 then ((watch_Rows.f t108).bind fun t118 => (if (t118.length : Int) = 1 then ((watch_Back.f t108).bind fun t121 => (some ((t121.length : Int) == 2))) else (some false))) else (some false))) else (some false)) else (some false)) else (none)) = some r := by rw [if_neg (show ¬ (false = true) by decide)] at H; exact H
          clear H
          have H := H1
          clear H1
          by_cases c14 : 1 < (t108.length : Int)
          · rw [if_pos c14] at H
            have c14b0 : decide (1 < (t108.length : Int)) = true := decide_eq_true c14
            have c14b1 : decide (1 < t108.length) = true := decide_eq_true (by omega)
            clear c14
            by_cases c15 : ((rd_T29 t108 1).f0) = 5
            · rw [if_pos c15] at H
              have c15b0 : (((rd_T29 t108 1).f0) == 5) = true := beq_iff_eq.mpr c15
              have c15b1 : (((rd_T29 t108 1).f0) != 5) = false := bne_eq_false_iff_eq.mpr c15
              clear c15
              obtain ⟨bq16, hbq16⟩ : ∃ b_ : Bool, b_ = ((rd_T29 t108 1).f1.f0) := ⟨_, rfl⟩
              replace H : (if bq16 = true then ((watch_At.f y105 4).bind fun t115 => (if (t115.length : Int) = 1 then ((watch_Rows.f t108).bind fun t118 => (if (t118.length : Int) = 1 then ((watch_Back.f t108).bind fun t121 => (some ((t121.length : Int) == 2))) else (some false))) else (some false))) else (some false)) = some r := by rw [← hbq16] at H; exact H
              have Nbq16 := Aside0.mk hbq16
              clear hbq16
              by_cases c17 : bq16 = true
              · subst c17
                have H1 : ((watch_At.f y105 4).bind fun t115 => (if (t115.length : Int) = 1 then ((watch_Rows.f t108).bind fun t118 => (if (t118.length : Int) = 1 then ((watch_Back.f t108).bind fun t121 => (some ((t121.length : Int) == 2))) else (some false))) else (some false))) = some r := by rw [if_pos rfl] at H; exact H
                clear H
                have H := H1
                clear H1
                replace H := Option.bind_eq_some_iff.mp H
                obtain ⟨t115, A180, H⟩ := H
                replace H : (if (t115.length : Int) = 1 then ((watch_Rows.f t108).bind fun t118 => (if (t118.length : Int) = 1 then ((watch_Back.f t108).bind fun t121 => (some ((t121.length : Int) == 2))) else (some false))) else (some false)) = some r := H
                have A18 := Aside0.mk A180
                clear A180
                by_cases c19 : (t115.length : Int) = 1
                · rw [if_pos c19] at H
                  have c19b0 : ((t115.length : Int) == 1) = true := beq_iff_eq.mpr c19
                  have c19b1 : ((t115.length : Int) != 1) = false := bne_eq_false_iff_eq.mpr c19
                  clear c19
                  replace H := Option.bind_eq_some_iff.mp H
                  obtain ⟨t118, A200, H⟩ := H
                  replace H : (if (t118.length : Int) = 1 then ((watch_Back.f t108).bind fun t121 => (some ((t121.length : Int) == 2))) else (some false)) = some r := H
                  have A20 := Aside0.mk A200
                  clear A200
                  by_cases c21 : (t118.length : Int) = 1
                  · rw [if_pos c21] at H
                    have c21b0 : ((t118.length : Int) == 1) = true := beq_iff_eq.mpr c21
                    have c21b1 : ((t118.length : Int) != 1) = false := bne_eq_false_iff_eq.mpr c21
                    clear c21
                    replace H := Option.bind_eq_some_iff.mp H
                    obtain ⟨t121, A220, H⟩ := H
                    replace H : (some ((t121.length : Int) == 2)) = some r := H
                    have A22 := Aside0.mk A220
                    clear A220
                    obtain rfl := Option.some.inj H
                    go_enter Try.func6, Try.ntmps6
                    go_wp2_with (first | ((with_reducible refine gate_callee (f := 20) rfl ?_); refine goesL_ (some 3) rfl rfl Try.func20 (by kernel_rfl) rfl #[.string (⟨#[117, 115, 101, 114, 58, 97, 110, 110]⟩ : ByteArray)] rfl (by (try simp only [List.map_toArray, List.map_cons, List.map_nil]); first | done | rfl | (simp only [List.length_drop, List.length_take]; rfl)) ?_; (with_reducible refine (porterlaw22_viewer.calls (⟨#[117, 115, 101, 114, 58, 97, 110, 110]⟩ : ByteArray) t102 t103 t104 _ A1.out).mono ?_); rintro e w23 ⟨rfl, hb⟩; refine ⟨_, rfl, ?_⟩; have n0_ := Aside0.mk (below_step (by repeat (first | (with_reducible first | exact HB.out | apply below_alloc | apply pw_below_drewN | apply below_drew1) | exact HB.out)) hb); clear HB; have HB := n0_; clear n0_; (try clear hb); (try clear hb2); (try clear hk); (try clear hi)) | ((with_reducible refine gate_dst (N := 5) rfl ?_); (try (refine gate_guard (by rfl) ?_; dsimp only)); refine Kd.R_lit k51 _ 51 ?hg (N := 5) ?hd (xs := ([(⟨(⟨t102, t103, t104⟩ : S25), 3, 5⟩ : S51)] : List (S51))) (inner := [.string t102, .string t103, .string t104, .int .i64 3, .int .i64 5]) (ok := fun _ => True) (okp := fun _ => True) ?hr ?hp (fun _ hk => hk) trivial (Below.refl _ _) (Nat.le_refl _) (by simp) ?_; (case hd => rfl); (case hg => rfl); (case hr => first | (go_simp; done) | (go_simp; rfl)); (case hp => exact (Reps.c5 (show Kd.M k51 _ _ _ (⟨(⟨t102, t103, t104⟩ : S25), 3, 5⟩ : S51) [.string t102, .string t103, .string t104, .int .i64 3, .int .i64 5] from (k51_mkM _ _ _ (⟨(⟨t102, t103, t104⟩ : S25), 3, 5⟩ : S51) )) (Reps.none _ _))); intro v106 w24 ho25 hb hg_ hnew_; clear hg_ hnew_; (first | rw [← Ny105.out] at ho25 | (simp only [Int.reduceToNat] at ho25; rw [← Ny105.out] at ho25)); have n0_ := Aside0.mk (Kd.R_lower ho25 (below_size (by repeat (first | (with_reducible first | exact HB.out | apply below_alloc | apply pw_below_drewN | apply below_drew1) | exact HB.out)))); have n1_ := Aside0.mk (below_step (by repeat (first | (with_reducible first | exact HB.out | apply below_alloc | apply pw_below_drewN | apply below_drew1) | exact HB.out)) hb); clear HB; have HO107 := n0_; have HB := n1_; clear n0_ n1_; clear hb ho25; obtain ⟨Ao26, co26, eo26⟩ := Kd.R_slice HO107.out; subst eo26) | ((with_reducible refine gate_callee (f := 8) rfl ?_); refine goesL_ (some 7) rfl rfl Try.func8 (by kernel_rfl) rfl #[.slice Ao26 y105.length co26, .int .i64 0, .int .i64 9] rfl (by (try simp only [List.map_toArray, List.map_cons, List.map_nil]); first | done | rfl | (simp only [List.length_drop, List.length_take]; rfl)) ?_; (with_reducible refine (watch_Changes.calls _ _ y105 0 9 t108 _ ?side1 ?side2 A2.out).mono ?_); (case side1 => repeat (first | exact (Kd.R_reads' HO107.out).2.2 | (with_reducible refine Kd.C_alloc ?_ _) | (with_reducible refine Kd.C_drewN ?_ _) | (with_reducible refine Kd.C_drew ?_))); (case side2 => exact (Kd.R_reads' HO107.out).2.1); rintro e w27 ⟨v109, rfl, ho0, hb⟩; refine ⟨_, rfl, ?_⟩; have n0_ := Aside0.mk (Kd.R_below (by (with_reducible repeat (first | apply Kd.R_alloc | apply Kd.R_drewN | apply Kd.R_drew)); exact HO107.out) hb); have n1_ := Aside0.mk (Kd.R_lower ho0 (below_size (by repeat (first | (with_reducible first | exact HB.out | apply below_alloc | apply pw_below_drewN | apply below_drew1) | exact HB.out)))); have n2_ := Aside0.mk (below_step (by repeat (first | (with_reducible first | exact HB.out | apply below_alloc | apply pw_below_drewN | apply below_drew1) | exact HB.out)) hb); clear HO107; clear HB; have HO107 := n0_; have HO110 := n1_; have HB := n2_; clear n0_ n1_ n2_; (try clear hb); (try clear hb2); (try clear hk); (try clear hi); (try clear ho0); obtain ⟨Ao28, co28, eo28⟩ := Kd.R_slice HO110.out; subst eo28; have p111 : 0 ≤ (0 : Int) := (by omega); have q111 : 0 < (t108.length : Int) := of_decide_eq_true (by first | (with_reducible assumption) | assumption); obtain ⟨ad111, e111, hx111_0, hx111_1, hx111_2, hx111_3, hx111_4⟩ := at_T29 (Kd.R_reads' HO110.out).2.2 0 p111 q111; (try rw [← Nbq6.out] at hx111_1); (try rw [← Nbq16.out] at hx111_1); cases e111; have qi111 : (0 < t108.length) = True := eq_true (by omega); (try rw [show ((0 : Int)).toNat = 0 from rfl] at hx111_0); (try rw [show 0 * 5 = 0 from rfl] at hx111_0); (try rw [Addr.add_zero'] at hx111_0); (try rw [show ((0 : Int)).toNat = 0 from rfl] at hx111_1); (try rw [show 0 * 5 = 0 from rfl] at hx111_1); (try rw [Addr.add_zero'] at hx111_1); (try rw [show ((0 : Int)).toNat = 0 from rfl] at hx111_2); (try rw [show 0 * 5 = 0 from rfl] at hx111_2); (try rw [Addr.add_zero'] at hx111_2); (try rw [show ((0 : Int)).toNat = 0 from rfl] at hx111_3); (try rw [show 0 * 5 = 0 from rfl] at hx111_3); (try rw [Addr.add_zero'] at hx111_3); (try rw [show ((0 : Int)).toNat = 0 from rfl] at hx111_4); (try rw [show 0 * 5 = 0 from rfl] at hx111_4); (try rw [Addr.add_zero'] at hx111_4); replace p111 := eq_true p111; replace q111 := eq_true q111; have p112 : 0 ≤ (0 : Int) := (by omega); have q112 : 0 < (t108.length : Int) := of_decide_eq_true (by first | (with_reducible assumption) | assumption); obtain ⟨ad112, e112, hx112_0, hx112_1, hx112_2, hx112_3, hx112_4⟩ := at_T29 (Kd.R_reads' HO110.out).2.2 0 p112 q112; (try rw [← Nbq6.out] at hx112_1); (try rw [← Nbq16.out] at hx112_1); obtain rfl : ad111 = ad112 := (by injection e112); have qi112 : (0 < t108.length) = True := eq_true (by omega); (try rw [show ((0 : Int)).toNat = 0 from rfl] at hx112_0); (try rw [show 0 * 5 = 0 from rfl] at hx112_0); (try rw [Addr.add_zero'] at hx112_0); (try rw [show ((0 : Int)).toNat = 0 from rfl] at hx112_1); (try rw [show 0 * 5 = 0 from rfl] at hx112_1); (try rw [Addr.add_zero'] at hx112_1); (try rw [show ((0 : Int)).toNat = 0 from rfl] at hx112_2); (try rw [show 0 * 5 = 0 from rfl] at hx112_2); (try rw [Addr.add_zero'] at hx112_2); (try rw [show ((0 : Int)).toNat = 0 from rfl] at hx112_3); (try rw [show 0 * 5 = 0 from rfl] at hx112_3); (try rw [Addr.add_zero'] at hx112_3); (try rw [show ((0 : Int)).toNat = 0 from rfl] at hx112_4); (try rw [show 0 * 5 = 0 from rfl] at hx112_4); (try rw [Addr.add_zero'] at hx112_4); replace p112 := eq_true p112; replace q112 := eq_true q112; have p113 : 0 ≤ (1 : Int) := (by omega); have q113 : 1 < (t108.length : Int) := of_decide_eq_true (by first | (with_reducible assumption) | assumption); obtain ⟨ad113, e113, hx113_0, hx113_1, hx113_2, hx113_3, hx113_4⟩ := at_T29 (Kd.R_reads' HO110.out).2.2 1 p113 q113; (try rw [← Nbq6.out] at hx113_1); (try rw [← Nbq16.out] at hx113_1); obtain rfl : ad111 = ad113 := (by injection e113); (try simp only [show (1 : Int).toNat = 1 from rfl, Nat.reduceMul, Nat.reduceEqDiff, Go.Addr.add, ↓reduceIte] at hx113_0); (try simp only [show (1 : Int).toNat = 1 from rfl, Nat.reduceMul, Nat.reduceEqDiff, Go.Addr.add, ↓reduceIte] at hx113_1); (try simp only [show (1 : Int).toNat = 1 from rfl, Nat.reduceMul, Nat.reduceEqDiff, Go.Addr.add, ↓reduceIte] at hx113_2); (try simp only [show (1 : Int).toNat = 1 from rfl, Nat.reduceMul, Nat.reduceEqDiff, Go.Addr.add, ↓reduceIte] at hx113_3); (try simp only [show (1 : Int).toNat = 1 from rfl, Nat.reduceMul, Nat.reduceEqDiff, Go.Addr.add, ↓reduceIte] at hx113_4); have qi113 : (1 < t108.length) = True := eq_true (by omega); (try rw [show ((1 : Int)).toNat = 1 from rfl] at hx113_0); (try rw [show 1 * 5 = 5 from rfl] at hx113_0); (try rw [show ((1 : Int)).toNat = 1 from rfl] at hx113_1); (try rw [show 1 * 5 = 5 from rfl] at hx113_1); (try rw [show ((1 : Int)).toNat = 1 from rfl] at hx113_2); (try rw [show 1 * 5 = 5 from rfl] at hx113_2); (try rw [show ((1 : Int)).toNat = 1 from rfl] at hx113_3); (try rw [show 1 * 5 = 5 from rfl] at hx113_3); (try rw [show ((1 : Int)).toNat = 1 from rfl] at hx113_4); (try rw [show 1 * 5 = 5 from rfl] at hx113_4); replace p113 := eq_true p113; replace q113 := eq_true q113; have p114 : 0 ≤ (1 : Int) := (by omega); have q114 : 1 < (t108.length : Int) := of_decide_eq_true (by first | (with_reducible assumption) | assumption); obtain ⟨ad114, e114, hx114_0, hx114_1, hx114_2, hx114_3, hx114_4⟩ := at_T29 (Kd.R_reads' HO110.out).2.2 1 p114 q114; (try rw [← Nbq6.out] at hx114_1); (try rw [← Nbq16.out] at hx114_1); obtain rfl : ad111 = ad114 := (by injection e114); (try simp only [show (1 : Int).toNat = 1 from rfl, Nat.reduceMul, Nat.reduceEqDiff, Go.Addr.add, ↓reduceIte] at hx114_0); (try simp only [show (1 : Int).toNat = 1 from rfl, Nat.reduceMul, Nat.reduceEqDiff, Go.Addr.add, ↓reduceIte] at hx114_1); (try simp only [show (1 : Int).toNat = 1 from rfl, Nat.reduceMul, Nat.reduceEqDiff, Go.Addr.add, ↓reduceIte] at hx114_2); (try simp only [show (1 : Int).toNat = 1 from rfl, Nat.reduceMul, Nat.reduceEqDiff, Go.Addr.add, ↓reduceIte] at hx114_3); (try simp only [show (1 : Int).toNat = 1 from rfl, Nat.reduceMul, Nat.reduceEqDiff, Go.Addr.add, ↓reduceIte] at hx114_4); have qi114 : (1 < t108.length) = True := eq_true (by omega); (try rw [show ((1 : Int)).toNat = 1 from rfl] at hx114_0); (try rw [show 1 * 5 = 5 from rfl] at hx114_0); (try rw [show ((1 : Int)).toNat = 1 from rfl] at hx114_1); (try rw [show 1 * 5 = 5 from rfl] at hx114_1); (try rw [show ((1 : Int)).toNat = 1 from rfl] at hx114_2); (try rw [show 1 * 5 = 5 from rfl] at hx114_2); (try rw [show ((1 : Int)).toNat = 1 from rfl] at hx114_3); (try rw [show 1 * 5 = 5 from rfl] at hx114_3); (try rw [show ((1 : Int)).toNat = 1 from rfl] at hx114_4); (try rw [show 1 * 5 = 5 from rfl] at hx114_4); replace p114 := eq_true p114; replace q114 := eq_true q114) | (go_at_call 18; (with_reducible refine (watch_At.calls _ _ y105 4 t115 _ ?side1 ?side2 A18.out).mono ?_); (case side1 => repeat (first | exact (Kd.R_reads' HO107.out).2.2 | (with_reducible refine Kd.C_alloc ?_ _) | (with_reducible refine Kd.C_drewN ?_ _) | (with_reducible refine Kd.C_drew ?_))); (case side2 => exact (Kd.R_reads' HO107.out).2.1); rintro e w29 ⟨v116, rfl, ho0, hb⟩; have n0_ := Aside0.mk (Kd.R_below (by (with_reducible repeat (first | apply Kd.R_alloc | apply Kd.R_drewN | apply Kd.R_drew)); exact HO107.out) hb); have n1_ := Aside0.mk (Kd.R_below (by (with_reducible repeat (first | apply Kd.R_alloc | apply Kd.R_drewN | apply Kd.R_drew)); exact HO110.out) hb); have n2_ := Aside0.mk (Kd.R_lower ho0 (below_size (by repeat (first | (with_reducible first | exact HB.out | apply below_alloc | apply pw_below_drewN | apply below_drew1) | exact HB.out)))); have n3_ := Aside0.mk (below_step (by repeat (first | (with_reducible first | exact HB.out | apply below_alloc | apply pw_below_drewN | apply below_drew1) | exact HB.out)) hb); clear HO107; clear HO110; clear HB; have HO107 := n0_; have HO110 := n1_; have HO117 := n2_; have HB := n3_; clear n0_ n1_ n2_ n3_; (try clear hb); (try clear hb2); (try clear hk); (try clear hi); (try clear ho0); obtain ⟨Ao30, co30, eo30⟩ := Kd.R_slice HO117.out; subst eo30) | (go_at_call 7; (with_reducible refine (watch_Rows.calls _ _ t108 t118 _ ?side1 ?side2 A20.out).mono ?_); (case side1 => repeat (first | exact (Kd.R_reads' HO110.out).2.2 | (with_reducible refine Kd.C_alloc ?_ _) | (with_reducible refine Kd.C_drewN ?_ _) | (with_reducible refine Kd.C_drew ?_))); (case side2 => exact (Kd.R_reads' HO110.out).2.1); rintro e w31 ⟨v119, rfl, ho0, hb⟩; have n0_ := Aside0.mk (Kd.R_elder' (by (with_reducible repeat (first | apply Kd.R_alloc | apply Kd.R_drewN | apply Kd.R_drew)); exact HO107.out) (Kd.R_base ho0) hb); have n1_ := Aside0.mk (Kd.R_below (by (with_reducible repeat (first | apply Kd.R_alloc | apply Kd.R_drewN | apply Kd.R_drew)); exact HO110.out) hb); have n2_ := Aside0.mk (Kd.R_below (by (with_reducible repeat (first | apply Kd.R_alloc | apply Kd.R_drewN | apply Kd.R_drew)); exact HO117.out) hb); have n3_ := Aside0.mk (Kd.R_lower (Kd.R_new' ho0 (Kd.R_lt (by (with_reducible repeat (first | apply Kd.R_alloc | apply Kd.R_drewN | apply Kd.R_drew)); exact HO107.out))) (below_size (by repeat (first | (with_reducible first | exact HB.out | apply below_alloc | apply pw_below_drewN | apply below_drew1) | exact HB.out)))); have n4_ := Aside0.mk (below_step (by repeat (first | (with_reducible first | exact HB.out | apply below_alloc | apply pw_below_drewN | apply below_drew1) | exact HB.out)) hb); clear HO107; clear HO110; clear HO117; clear HB; have HO107 := n0_; have HO110 := n1_; have HO117 := n2_; have HO120 := n3_; have HB := n4_; clear n0_ n1_ n2_ n3_ n4_; (try clear hb); (try clear hb2); (try clear hk); (try clear hi); (try clear ho0); obtain ⟨Ao32, co32, eo32⟩ := Kd.R_slice HO120.out; subst eo32) | (go_at_call 19; (with_reducible refine (watch_Back.calls _ _ t108 t121 _ ?side1 ?side2 A22.out).mono ?_); (case side1 => repeat (first | exact (Kd.R_reads' HO110.out).2.2 | (with_reducible refine Kd.C_alloc ?_ _) | (with_reducible refine Kd.C_drewN ?_ _) | (with_reducible refine Kd.C_drew ?_))); (case side2 => exact (Kd.R_reads' HO110.out).2.1); rintro e w33 ⟨v122, rfl, ho0, hb⟩; have n0_ := Aside0.mk (Kd.R_below (by (with_reducible repeat (first | apply Kd.R_alloc | apply Kd.R_drewN | apply Kd.R_drew)); exact HO107.out) hb); have n1_ := Aside0.mk (Kd.R_elder' (by (with_reducible repeat (first | apply Kd.R_alloc | apply Kd.R_drewN | apply Kd.R_drew)); exact HO110.out) (Kd.R_base ho0) hb); have n2_ := Aside0.mk (Kd.R_below (by (with_reducible repeat (first | apply Kd.R_alloc | apply Kd.R_drewN | apply Kd.R_drew)); exact HO117.out) hb); have n3_ := Aside0.mk (Kd.R_below (by (with_reducible repeat (first | apply Kd.R_alloc | apply Kd.R_drewN | apply Kd.R_drew)); exact HO120.out) hb); have n4_ := Aside0.mk (Kd.R_lower (Kd.R_new' ho0 (Kd.R_lt (by (with_reducible repeat (first | apply Kd.R_alloc | apply Kd.R_drewN | apply Kd.R_drew)); exact HO110.out))) (below_size (by repeat (first | (with_reducible first | exact HB.out | apply below_alloc | apply pw_below_drewN | apply below_drew1) | exact HB.out)))); have n5_ := Aside0.mk (below_step (by repeat (first | (with_reducible first | exact HB.out | apply below_alloc | apply pw_below_drewN | apply below_drew1) | exact HB.out)) hb); clear HO107; clear HO110; clear HO117; clear HO120; clear HB; have HO107 := n0_; have HO110 := n1_; have HO117 := n2_; have HO120 := n3_; have HO123 := n4_; have HB := n5_; clear n0_ n1_ n2_ n3_ n4_ n5_; (try clear hb); (try clear hb2); (try clear hk); (try clear hi); (try clear ho0); obtain ⟨Ao34, co34, eo34⟩ := Kd.R_slice HO123.out; subst eo34))
                    go_ret
                    exact ⟨by first | rfl | (simp [errW_none, errW_some] <;> rfl) | (simp [*, errW_none, errW_some] <;> rfl), by repeat (first | (with_reducible first | exact HB.out | apply below_alloc | apply pw_below_drewN | apply below_drew1) | exact HB.out)⟩
                  · rw [if_neg c21] at H
                    have c21b0 : ((t118.length : Int) == 1) = false := beq_eq_false_iff_ne.mpr c21
                    have c21b1 : ((t118.length : Int) != 1) = true := bne_iff_ne.mpr c21
                    exact absurd ((Option.some.inj H).trans hT.out) (by decide)
                · rw [if_neg c19] at H
                  have c19b0 : ((t115.length : Int) == 1) = false := beq_eq_false_iff_ne.mpr c19
                  have c19b1 : ((t115.length : Int) != 1) = true := bne_iff_ne.mpr c19
                  exact absurd ((Option.some.inj H).trans hT.out) (by decide)
              · replace c17 := Bool.eq_false_iff.mpr c17
                subst c17
                have H1 : (some false) = some r := by rw [if_neg (show ¬ (false = true) by decide)] at H; exact H
                clear H
                have H := H1
                clear H1
                exact absurd ((Option.some.inj H).trans hT.out) (by decide)
            · rw [if_neg c15] at H
              have c15b0 : (((rd_T29 t108 1).f0) == 5) = false := beq_eq_false_iff_ne.mpr c15
              have c15b1 : (((rd_T29 t108 1).f0) != 5) = true := bne_iff_ne.mpr c15
              exact absurd ((Option.some.inj H).trans hT.out) (by decide)
          · rw [if_neg c14] at H
            exact absurd H (by simp)
      · rw [if_neg c5] at H
        have c5b0 : (((rd_T29 t108 0).f0) == 3) = false := beq_eq_false_iff_ne.mpr c5
        have c5b1 : (((rd_T29 t108 0).f0) != 3) = true := bne_iff_ne.mpr c5
        exact absurd ((Option.some.inj H).trans hT.out) (by decide)
    · rw [if_neg c4] at H
      exact absurd H (by simp)
  · rw [if_neg c3] at H
    have c3b0 : ((t108.length : Int) == 2) = false := beq_eq_false_iff_ne.mpr c3
    have c3b1 : ((t108.length : Int) != 2) = true := bne_iff_ne.mpr c3
    exact absurd ((Option.some.inj H).trans hT.out) (by decide)

/-! ### porterlaw22_tuples: function 9 -/
def porterlaw22_tuples.l0 : Nat → List (S25) → List (S25) → Int → Int → Option (Bool)
  | 0, _, _, _, _ => none
  | k + 1, x0, x1, x12, x13 => if x13 < x12 then (if 0 ≤ x13 then (if x13 < (x0.length : Int) then (if x13 < (x1.length : Int) then (if (!((((rd_T25 x0 x13).f0).toList) == (((rd_T25 x1 x13).f0).toList)) || (!((((rd_T25 x0 x13).f1).toList) == (((rd_T25 x1 x13).f1).toList)) || (!((((rd_T25 x0 x13).f2).toList) == (((rd_T25 x1 x13).f2).toList))))) = true then (some false) else (porterlaw22_tuples.l0 k x0 x1 x12 (wrap64 (x13 + 1)))) else (none)) else (none)) else (none)) else (some true)
def porterlaw22_tuples.f (k : Nat) (l0 : List (S25)) (l1 : List (S25)) : Option (Bool) := if (l0.length : Int) = (l1.length : Int) then (porterlaw22_tuples.l0 k l0 l1 (l0.length : Int) 0) else (some false)
theorem porterlaw22_tuples.mono_l : ∀ k, (∀ y0 y1 y2 y3, LeO (porterlaw22_tuples.l0 k y0 y1 y2 y3) (porterlaw22_tuples.l0 (k + 1) y0 y1 y2 y3))
  | 0 => fun _ _ _ _ r h => by simp [porterlaw22_tuples.l0] at h
  | k + 1 => by
    have ih0 := porterlaw22_tuples.mono_l k
    · intro y0 y1 y2 y3
      unfold porterlaw22_tuples.l0
      repeat' first
      | (with_reducible exact ih0 _ _ _ _)
      | (with_reducible exact LeO.refl _)
      | (with_reducible exact LeO.none _)
      | (with_reducible refine LeO.ite ?_ ?_)
      | (with_reducible refine LeO.bind ?_ (fun _ => ?_))
      | exact ih0 _ _ _ _
      | exact LeO.none _
      | refine LeO.ite ?_ ?_
      | refine LeO.bind ?_ (fun _ => ?_)
theorem porterlaw22_tuples.mono : ∀ a0 a1 k, LeO (porterlaw22_tuples.f k a0 a1) (porterlaw22_tuples.f (k + 1) a0 a1) := by
  intro a0 a1 k
  have ih0 := porterlaw22_tuples.mono_l k
  unfold porterlaw22_tuples.f
  repeat' first
      | (with_reducible exact ih0 _ _ _ _)
      | (with_reducible exact LeO.refl _)
      | (with_reducible exact LeO.none _)
      | (with_reducible refine LeO.ite ?_ ?_)
      | (with_reducible refine LeO.bind ?_ (fun _ => ?_))
      | exact ih0 _ _ _ _
      | exact LeO.none _
      | refine LeO.ite ?_ ?_
      | refine LeO.bind ?_ (fun _ => ?_)
set_option maxHeartbeats 8000000 in
set_option maxRecDepth 100000 in
theorem porterlaw22_tuples.calls (k : Nat) (A0 : Option Addr) (c0 : Nat) (l0 : List (S25)) (A1 : Option Addr) (c1 : Nat) (l1 : List (S25)) (r : Bool) (w : World) (hr0 : Kd.C k25 w A0 l0.length l0) (hc0 : l0.length ≤ c0) (hr1 : Kd.C k25 w A1 l1.length l1) (hc1 : l1.length ≤ c1) (h : porterlaw22_tuples.f k l0 l1 = some r) :
    Calls Try.prog 9 #[.slice A0 l0.length c0, .slice A1 l1.length c1] w fun e w' => e = .returned (.bool r) ∧ Drawn0 w w' := by
  have hu25 := Try.underlying25
  have HR0 := Aside0.mk hr0
  have HC0 := Aside0.mk hc0
  clear hr0 hc0
  have HR1 := Aside0.mk hr1
  have HC1 := Aside0.mk hc1
  clear hr1 hc1
  have H : (if (l0.length : Int) = (l1.length : Int) then (porterlaw22_tuples.l0 k l0 l1 (l0.length : Int) 0) else (some false)) = some r := h
  clear h
  by_cases c3 : (l0.length : Int) = (l1.length : Int)
  · rw [if_pos c3] at H
    have c3b0 : ((l0.length : Int) == (l1.length : Int)) = true := beq_iff_eq.mpr c3
    have c3b1 : ((l0.length : Int) != (l1.length : Int)) = false := bne_eq_false_iff_eq.mpr c3
    have c3b2 : (l0.length == l1.length) = true := by first | simpa using c3 | (simp at c3 ⊢; omega)
    clear c3
    have H' := Aside0.mk H
    clear H
    go_enter Try.func9, Try.ntmps9
    go_wp2
    repeat (go_quiet (fail); try go_wp2)
    go_loopg [13] k (fun kq v13 w' => ∃ (x13_1 : Int), v13 = .int .i64 x13_1 ∧ Aside0 (porterlaw22_tuples.l0 kq l0 l1 (l0.length : Int) x13_1 = some r) ∧ Aside0 (kq ≤ k) ∧ Drawn0 w w')
    case atStart => exact ⟨(0), (by first | rfl | (simp; done) | (simp [*]; done)), H', ⟨Nat.le_refl _⟩, by repeat (first | exact Drawn0.refl _ | apply Drawn0.step)⟩
    case round =>
      clear H'
      try clear c1
      try clear p2
      try clear c3
      try clear c3b0
      try clear c3b1
      try clear c3b2
      obtain ⟨x13_1, rfl, HA, HK1, ⟨m1, rfl⟩⟩ := hrel
      cases gk with
      | zero => exact absurd HA.out (by simp [porterlaw22_tuples.l0])
      | succ k1 =>
        have H := HA.out
        clear HA
        simp only [porterlaw22_tuples.l0] at H
        by_cases c4 : x13_1 < (l0.length : Int)
        · rw [if_pos c4] at H
          have c4b0 : decide (x13_1 < (l0.length : Int)) = true := decide_eq_true c4
          clear c4
          by_cases c5 : 0 ≤ x13_1
          · rw [if_pos c5] at H
            have c5b0 : decide (0 ≤ x13_1) = true := decide_eq_true c5
            clear c5
            by_cases c6 : x13_1 < (l0.length : Int)
            · rw [if_pos c6] at H
              have c6b0 : decide (x13_1 < (l0.length : Int)) = true := decide_eq_true c6
              clear c6
              by_cases c7 : x13_1 < (l1.length : Int)
              · rw [if_pos c7] at H
                have c7b0 : decide (x13_1 < (l1.length : Int)) = true := decide_eq_true c7
                clear c7
                by_cases c8 : (!((((rd_T25 l0 x13_1).f0).toList) == (((rd_T25 l1 x13_1).f0).toList)) || (!((((rd_T25 l0 x13_1).f1).toList) == (((rd_T25 l1 x13_1).f1).toList)) || (!((((rd_T25 l0 x13_1).f2).toList) == (((rd_T25 l1 x13_1).f2).toList))))) = true
                · rw [if_pos c8] at H
                  have c8b0 : (!((((rd_T25 l0 x13_1).f0).toList) == (((rd_T25 l1 x13_1).f0).toList)) || (!((((rd_T25 l0 x13_1).f1).toList) == (((rd_T25 l1 x13_1).f1).toList)) || (!((((rd_T25 l0 x13_1).f2).toList) == (((rd_T25 l1 x13_1).f2).toList))))) = true := c8
                  clear c8
                  obtain rfl := Option.some.inj H
                  have p124 : 0 ≤ (x13_1 : Int) := of_decide_eq_true (by first | (with_reducible assumption) | assumption)
                  have q124 : x13_1 < (l0.length : Int) := of_decide_eq_true (by first | (with_reducible assumption) | assumption)
                  obtain ⟨ad124, e124, hx124_0, hx124_1, hx124_2⟩ := at_T25 HR0.out x13_1 p124 q124
                  cases e124
                  replace p124 := eq_true p124
                  replace q124 := eq_true q124
                  have p125 : 0 ≤ (x13_1 : Int) := of_decide_eq_true (by first | (with_reducible assumption) | assumption)
                  have q125 : x13_1 < (l1.length : Int) := of_decide_eq_true (by first | (with_reducible assumption) | assumption)
                  obtain ⟨ad125, e125, hx125_0, hx125_1, hx125_2⟩ := at_T25 HR1.out x13_1 p125 q125
                  cases e125
                  replace p125 := eq_true p125
                  replace q125 := eq_true q125
                  go_wp2
                  repeat (go_quiet (fail); try go_wp2)
                  go_ret
                  exact ⟨by first | rfl | (simp; done) | (simp [*]; done), by repeat (first | exact Drawn0.refl _ | apply Drawn0.step)⟩
                · rw [if_neg c8] at H
                  have c8b0 : (!((((rd_T25 l0 x13_1).f0).toList) == (((rd_T25 l1 x13_1).f0).toList)) || (!((((rd_T25 l0 x13_1).f1).toList) == (((rd_T25 l1 x13_1).f1).toList)) || (!((((rd_T25 l0 x13_1).f2).toList) == (((rd_T25 l1 x13_1).f2).toList))))) = false := by simpa using c8
                  clear c8
                  have H' := Aside0.mk H
                  clear H
                  have p124 : 0 ≤ (x13_1 : Int) := of_decide_eq_true (by first | (with_reducible assumption) | assumption)
                  have q124 : x13_1 < (l0.length : Int) := of_decide_eq_true (by first | (with_reducible assumption) | assumption)
                  obtain ⟨ad124, e124, hx124_0, hx124_1, hx124_2⟩ := at_T25 HR0.out x13_1 p124 q124
                  cases e124
                  replace p124 := eq_true p124
                  replace q124 := eq_true q124
                  have p125 : 0 ≤ (x13_1 : Int) := of_decide_eq_true (by first | (with_reducible assumption) | assumption)
                  have q125 : x13_1 < (l1.length : Int) := of_decide_eq_true (by first | (with_reducible assumption) | assumption)
                  obtain ⟨ad125, e125, hx125_0, hx125_1, hx125_2⟩ := at_T25 HR1.out x13_1 p125 q125
                  cases e125
                  replace p125 := eq_true p125
                  replace q125 := eq_true q125
                  go_wp2
                  repeat (go_quiet (fail); try go_wp2)
                  go_roundg k1
                  case measure => have := HK1.out; omega
                  case rel => exact ⟨(wrap64 (x13_1 + 1)), (by first | rfl | (simp; done) | (simp [*]; done)), H', ⟨by have := HK1.out; omega⟩, by repeat (first | exact Drawn0.refl _ | apply Drawn0.step)⟩
              · rw [if_neg c7] at H
                exact absurd H (by simp)
            · rw [if_neg c6] at H
              exact absurd H (by simp)
          · rw [if_neg c5] at H
            exact absurd H (by simp)
        · rw [if_neg c4] at H
          have c4b0 : decide (x13_1 < (l0.length : Int)) = false := decide_eq_false c4
          clear c4
          obtain rfl := Option.some.inj H
          go_wp2
          repeat (go_quiet (fail); try go_wp2)
          go_ret
          exact ⟨by first | rfl | (simp; done) | (simp [*]; done), by repeat (first | exact Drawn0.refl _ | apply Drawn0.step)⟩
  · rw [if_neg c3] at H
    have c3b0 : ((l0.length : Int) == (l1.length : Int)) = false := beq_eq_false_iff_ne.mpr c3
    have c3b1 : ((l0.length : Int) != (l1.length : Int)) = true := bne_iff_ne.mpr c3
    have c3b2 : (l0.length == l1.length) = false := by first | simpa using c3 | (simp at c3 ⊢; omega)
    obtain rfl := Option.some.inj H
    go_enter Try.func9, Try.ntmps9
    go_wp2
    repeat (go_quiet (fail); try go_wp2)
    go_ret
    exact ⟨by first | rfl | (simp; done) | (simp [*]; done), by repeat (first | exact Drawn0.refl _ | apply Drawn0.step)⟩

-- told from outside: function 10 (watch_Play)

-- told from outside: function 16 (watch_Net)

/-! ### porterref07_Same: function 11 -/
def porterref07_Same.l0 : Nat → List (S51) → List (S51) → Int → Option (Bool)
  | 0, _, _, _ => none
  | k + 1, x0, x1, x5 => if x5 < (x0.length : Int) then (if 0 ≤ x5 then (if x5 < (x1.length : Int) then (if ((!((((rd_T51 x0 x5).f0.f0).toList) == (((rd_T51 x1 x5).f0.f0).toList)) || (!((((rd_T51 x0 x5).f0.f1).toList) == (((rd_T51 x1 x5).f0.f1).toList)) || (!((((rd_T51 x0 x5).f0.f2).toList) == (((rd_T51 x1 x5).f0.f2).toList))))) || (!(((rd_T51 x0 x5).f1) == ((rd_T51 x1 x5).f1)) || (!(((rd_T51 x0 x5).f2) == ((rd_T51 x1 x5).f2))))) = true then (some false) else (porterref07_Same.l0 k x0 x1 (wrap64 (x5 + 1)))) else (none)) else (none)) else (some true)
def porterref07_Same.f (k : Nat) (l0 : List (S51)) (l1 : List (S51)) : Option (Bool) := if (l0.length : Int) = (l1.length : Int) then (porterref07_Same.l0 k l0 l1 0) else (some false)
theorem porterref07_Same.mono_l : ∀ k, (∀ y0 y1 y2, LeO (porterref07_Same.l0 k y0 y1 y2) (porterref07_Same.l0 (k + 1) y0 y1 y2))
  | 0 => fun _ _ _ r h => by simp [porterref07_Same.l0] at h
  | k + 1 => by
    have ih0 := porterref07_Same.mono_l k
    · intro y0 y1 y2
      unfold porterref07_Same.l0
      repeat' first
      | (with_reducible exact ih0 _ _ _)
      | (with_reducible exact LeO.refl _)
      | (with_reducible exact LeO.none _)
      | (with_reducible refine LeO.ite ?_ ?_)
      | (with_reducible refine LeO.bind ?_ (fun _ => ?_))
      | exact ih0 _ _ _
      | exact LeO.none _
      | refine LeO.ite ?_ ?_
      | refine LeO.bind ?_ (fun _ => ?_)
theorem porterref07_Same.mono : ∀ a0 a1 k, LeO (porterref07_Same.f k a0 a1) (porterref07_Same.f (k + 1) a0 a1) := by
  intro a0 a1 k
  have ih0 := porterref07_Same.mono_l k
  unfold porterref07_Same.f
  repeat' first
      | (with_reducible exact ih0 _ _ _)
      | (with_reducible exact LeO.refl _)
      | (with_reducible exact LeO.none _)
      | (with_reducible refine LeO.ite ?_ ?_)
      | (with_reducible refine LeO.bind ?_ (fun _ => ?_))
      | exact ih0 _ _ _
      | exact LeO.none _
      | refine LeO.ite ?_ ?_
      | refine LeO.bind ?_ (fun _ => ?_)
set_option maxHeartbeats 8000000 in
set_option maxRecDepth 100000 in
theorem porterref07_Same.calls (k : Nat) (A0 : Option Addr) (c0 : Nat) (l0 : List (S51)) (A1 : Option Addr) (c1 : Nat) (l1 : List (S51)) (r : Bool) (w : World) (hr0 : Kd.C k51 w A0 l0.length l0) (hc0 : l0.length ≤ c0) (hr1 : Kd.C k51 w A1 l1.length l1) (hc1 : l1.length ≤ c1) (h : porterref07_Same.f k l0 l1 = some r) :
    Calls Try.prog 11 #[.slice A0 l0.length c0, .slice A1 l1.length c1] w fun e w' => e = .returned (.bool r) ∧ Drawn0 w w' := by
  have hu51 := Try.underlying51
  have HR0 := Aside0.mk hr0
  have HC0 := Aside0.mk hc0
  clear hr0 hc0
  have HR1 := Aside0.mk hr1
  have HC1 := Aside0.mk hc1
  clear hr1 hc1
  have H : (if (l0.length : Int) = (l1.length : Int) then (porterref07_Same.l0 k l0 l1 0) else (some false)) = some r := h
  clear h
  by_cases c3 : (l0.length : Int) = (l1.length : Int)
  · rw [if_pos c3] at H
    have c3b0 : ((l0.length : Int) == (l1.length : Int)) = true := beq_iff_eq.mpr c3
    have c3b1 : ((l0.length : Int) != (l1.length : Int)) = false := bne_eq_false_iff_eq.mpr c3
    have c3b2 : (l0.length == l1.length) = true := by first | simpa using c3 | (simp at c3 ⊢; omega)
    clear c3
    have H' := Aside0.mk H
    clear H
    go_enter Try.func11, Try.ntmps11
    go_wp2
    repeat (go_quiet (fail); try go_wp2)
    go_loopg [5] k (fun kq v5 w' => ∃ (x5_1 : Int), v5 = .int .i64 x5_1 ∧ Aside0 (porterref07_Same.l0 kq l0 l1 x5_1 = some r) ∧ Aside0 (kq ≤ k) ∧ Drawn0 w w')
    case atStart => exact ⟨(0), (by first | rfl | (simp; done) | (simp [*]; done)), H', ⟨Nat.le_refl _⟩, by repeat (first | exact Drawn0.refl _ | apply Drawn0.step)⟩
    case round =>
      clear H'
      try clear c1
      try clear p2
      try clear c3
      try clear c3b0
      try clear c3b1
      try clear c3b2
      obtain ⟨x5_1, rfl, HA, HK1, ⟨m1, rfl⟩⟩ := hrel
      cases gk with
      | zero => exact absurd HA.out (by simp [porterref07_Same.l0])
      | succ k1 =>
        have H := HA.out
        clear HA
        simp only [porterref07_Same.l0] at H
        by_cases c4 : x5_1 < (l0.length : Int)
        · rw [if_pos c4] at H
          have c4b0 : decide (x5_1 < (l0.length : Int)) = true := decide_eq_true c4
          clear c4
          by_cases c5 : 0 ≤ x5_1
          · rw [if_pos c5] at H
            have c5b0 : decide (0 ≤ x5_1) = true := decide_eq_true c5
            clear c5
            by_cases c6 : x5_1 < (l1.length : Int)
            · rw [if_pos c6] at H
              have c6b0 : decide (x5_1 < (l1.length : Int)) = true := decide_eq_true c6
              clear c6
              by_cases c7 : ((!((((rd_T51 l0 x5_1).f0.f0).toList) == (((rd_T51 l1 x5_1).f0.f0).toList)) || (!((((rd_T51 l0 x5_1).f0.f1).toList) == (((rd_T51 l1 x5_1).f0.f1).toList)) || (!((((rd_T51 l0 x5_1).f0.f2).toList) == (((rd_T51 l1 x5_1).f0.f2).toList))))) || (!(((rd_T51 l0 x5_1).f1) == ((rd_T51 l1 x5_1).f1)) || (!(((rd_T51 l0 x5_1).f2) == ((rd_T51 l1 x5_1).f2))))) = true
              · rw [if_pos c7] at H
                have c7b0 : ((!((((rd_T51 l0 x5_1).f0.f0).toList) == (((rd_T51 l1 x5_1).f0.f0).toList)) || (!((((rd_T51 l0 x5_1).f0.f1).toList) == (((rd_T51 l1 x5_1).f0.f1).toList)) || (!((((rd_T51 l0 x5_1).f0.f2).toList) == (((rd_T51 l1 x5_1).f0.f2).toList))))) || (!(((rd_T51 l0 x5_1).f1) == ((rd_T51 l1 x5_1).f1)) || (!(((rd_T51 l0 x5_1).f2) == ((rd_T51 l1 x5_1).f2))))) = true := c7
                clear c7
                obtain rfl := Option.some.inj H
                have p149 : 0 ≤ (x5_1 : Int) := of_decide_eq_true (by first | (with_reducible assumption) | assumption)
                have q149 : x5_1 < (l0.length : Int) := of_decide_eq_true (by first | (with_reducible assumption) | assumption)
                obtain ⟨ad149, e149, hx149_0, hx149_1, hx149_2, hx149_3, hx149_4⟩ := at_T51 HR0.out x5_1 p149 q149
                cases e149
                replace p149 := eq_true p149
                replace q149 := eq_true q149
                have p150 : 0 ≤ (x5_1 : Int) := of_decide_eq_true (by first | (with_reducible assumption) | assumption)
                have q150 : x5_1 < (l1.length : Int) := of_decide_eq_true (by first | (with_reducible assumption) | assumption)
                obtain ⟨ad150, e150, hx150_0, hx150_1, hx150_2, hx150_3, hx150_4⟩ := at_T51 HR1.out x5_1 p150 q150
                cases e150
                replace p150 := eq_true p150
                replace q150 := eq_true q150
                go_wp2
                repeat (go_quiet (fail); try go_wp2)
                go_ret
                exact ⟨by first | rfl | (simp; done) | (simp [*]; done), by repeat (first | exact Drawn0.refl _ | apply Drawn0.step)⟩
              · rw [if_neg c7] at H
                have c7b0 : ((!((((rd_T51 l0 x5_1).f0.f0).toList) == (((rd_T51 l1 x5_1).f0.f0).toList)) || (!((((rd_T51 l0 x5_1).f0.f1).toList) == (((rd_T51 l1 x5_1).f0.f1).toList)) || (!((((rd_T51 l0 x5_1).f0.f2).toList) == (((rd_T51 l1 x5_1).f0.f2).toList))))) || (!(((rd_T51 l0 x5_1).f1) == ((rd_T51 l1 x5_1).f1)) || (!(((rd_T51 l0 x5_1).f2) == ((rd_T51 l1 x5_1).f2))))) = false := by simpa using c7
                clear c7
                have H' := Aside0.mk H
                clear H
                have p149 : 0 ≤ (x5_1 : Int) := of_decide_eq_true (by first | (with_reducible assumption) | assumption)
                have q149 : x5_1 < (l0.length : Int) := of_decide_eq_true (by first | (with_reducible assumption) | assumption)
                obtain ⟨ad149, e149, hx149_0, hx149_1, hx149_2, hx149_3, hx149_4⟩ := at_T51 HR0.out x5_1 p149 q149
                cases e149
                replace p149 := eq_true p149
                replace q149 := eq_true q149
                have p150 : 0 ≤ (x5_1 : Int) := of_decide_eq_true (by first | (with_reducible assumption) | assumption)
                have q150 : x5_1 < (l1.length : Int) := of_decide_eq_true (by first | (with_reducible assumption) | assumption)
                obtain ⟨ad150, e150, hx150_0, hx150_1, hx150_2, hx150_3, hx150_4⟩ := at_T51 HR1.out x5_1 p150 q150
                cases e150
                replace p150 := eq_true p150
                replace q150 := eq_true q150
                go_wp2
                repeat (go_quiet (fail); try go_wp2)
                go_roundg k1
                case measure => have := HK1.out; omega
                case rel => exact ⟨(wrap64 (x5_1 + 1)), (by first | rfl | (simp; done) | (simp [*]; done)), H', ⟨by have := HK1.out; omega⟩, by repeat (first | exact Drawn0.refl _ | apply Drawn0.step)⟩
            · rw [if_neg c6] at H
              exact absurd H (by simp)
          · rw [if_neg c5] at H
            exact absurd H (by simp)
        · rw [if_neg c4] at H
          have c4b0 : decide (x5_1 < (l0.length : Int)) = false := decide_eq_false c4
          clear c4
          obtain rfl := Option.some.inj H
          go_wp2
          repeat (go_quiet (fail); try go_wp2)
          go_ret
          exact ⟨by first | rfl | (simp; done) | (simp [*]; done), by repeat (first | exact Drawn0.refl _ | apply Drawn0.step)⟩
  · rw [if_neg c3] at H
    have c3b0 : ((l0.length : Int) == (l1.length : Int)) = false := beq_eq_false_iff_ne.mpr c3
    have c3b1 : ((l0.length : Int) != (l1.length : Int)) = true := bne_iff_ne.mpr c3
    have c3b2 : (l0.length == l1.length) = false := by first | simpa using c3 | (simp at c3 ⊢; omega)
    obtain rfl := Option.some.inj H
    go_enter Try.func11, Try.ntmps11
    go_wp2
    repeat (go_quiet (fail); try go_wp2)
    go_ret
    exact ⟨by first | rfl | (simp; done) | (simp [*]; done), by repeat (first | exact Drawn0.refl _ | apply Drawn0.step)⟩

/-! ### porterref05_Less: function 45 -/
def porterref05_Less.f (a0_0 : ByteArray) (a0_1 : ByteArray) (a0_2 : ByteArray) (a1_0 : ByteArray) (a1_1 : ByteArray) (a1_2 : ByteArray) : Option (Bool) := if a0_0.toList = a1_0.toList then (if a0_1.toList = a1_1.toList then (some (Op.bytesLess a0_2.toList a1_2.toList)) else (some (Op.bytesLess a0_1.toList a1_1.toList))) else (some (Op.bytesLess a0_0.toList a1_0.toList))
set_option maxHeartbeats 8000000 in
set_option maxRecDepth 100000 in
theorem porterref05_Less.calls (a0_0 : ByteArray) (a0_1 : ByteArray) (a0_2 : ByteArray) (a1_0 : ByteArray) (a1_1 : ByteArray) (a1_2 : ByteArray) (r : Bool) (w : World) (h : porterref05_Less.f a0_0 a0_1 a0_2 a1_0 a1_1 a1_2 = some r) :
    Calls Try.prog 45 #[.agg #[.string a0_0, .string a0_1, .string a0_2], .agg #[.string a1_0, .string a1_1, .string a1_2]] w fun e w' => e = .returned (.bool r) ∧ Below w.heap.size w w' := by
  have hu25 := Try.underlying25
  have HB := Aside0.mk (Below.refl w.heap.size w)
  have H : (if a0_0.toList = a1_0.toList then (if a0_1.toList = a1_1.toList then (some (Op.bytesLess a0_2.toList a1_2.toList)) else (some (Op.bytesLess a0_1.toList a1_1.toList))) else (some (Op.bytesLess a0_0.toList a1_0.toList))) = some r := h
  clear h
  by_cases c3 : a0_0.toList = a1_0.toList
  · rw [if_pos c3] at H
    have c3b0 : (a0_0.toList == a1_0.toList) = true := beq_iff_eq.mpr c3
    have c3b1 : (a0_0.toList != a1_0.toList) = false := bne_eq_false_iff_eq.mpr c3
    clear c3
    by_cases c4 : a0_1.toList = a1_1.toList
    · rw [if_pos c4] at H
      have c4b0 : (a0_1.toList == a1_1.toList) = true := beq_iff_eq.mpr c4
      have c4b1 : (a0_1.toList != a1_1.toList) = false := bne_eq_false_iff_eq.mpr c4
      clear c4
      obtain rfl := Option.some.inj H
      go_enter Try.func45, Try.ntmps45
      go_wp2_with (first | ((with_reducible refine gate_dst (N := 2) rfl ?_); refine box_event ?hg (N := 2) ?hd (cs := #[.string a0_0, .string a0_1, .string a0_2]) (t := 25) ?hr ?_; (case hd => rfl); (case hg => rfl); (case hr => first | (go_simp; done) | (go_simp; rfl)); intro gb151 hg w5 hbox hb; have n0_ := Aside0.mk (below_step (by repeat (first | (with_reducible first | exact HB.out | apply below_alloc | apply pw_below_drewN | apply below_drew1) | exact HB.out)) hb); have n1_ := Aside0.mk (hbox); have n2_ := Aside0.mk ((by rw [hg]; exact (below_size (by repeat (first | (with_reducible first | exact HB.out | apply below_alloc | apply pw_below_drewN | apply below_drew1) | exact HB.out))) : w.heap.size ≤ gb151)); have n3_ := Aside0.mk ((by rw [hg]; exact (below_size (by repeat (first | (with_reducible first | exact HB.out | apply below_alloc | apply pw_below_drewN | apply below_drew1) | exact HB.out))) : w.heap.size ≤ gb151)); clear HB; have HB := n0_; have BK151 := n1_; have GW151 := n2_; have GE151 := n3_; clear n0_ n1_ n2_ n3_; clear hb hbox hg) | ((with_reducible refine gate_dst (N := 3) rfl ?_); refine box_event ?hg (N := 3) ?hd (cs := #[.string a1_0, .string a1_1, .string a1_2]) (t := 25) ?hr ?_; (case hd => rfl); (case hg => rfl); (case hr => first | (go_simp; done) | (go_simp; rfl)); intro gb152 hg w6 hbox hb; have n0_ := Aside0.mk (blk_below (g := gb151) (o := .cells #[.string a0_0, .string a0_1, .string a0_2] 25 (0, 0)) (by (with_reducible repeat (first | refine blk_drewN ?_ _ | refine blk_drew ?_ | refine blk_alloc ?_ _)); exact BK151.out) hb); have n1_ := Aside0.mk (below_step (by repeat (first | (with_reducible first | exact HB.out | apply below_alloc | apply pw_below_drewN | apply below_drew1 | refine below_set ?_ GE151.out) | exact HB.out)) hb); have n2_ := Aside0.mk (hbox); have n3_ := Aside0.mk ((by rw [hg]; exact (below_size (by repeat (first | (with_reducible first | exact HB.out | apply below_alloc | apply pw_below_drewN | apply below_drew1 | refine below_set ?_ GE151.out) | exact HB.out))) : w.heap.size ≤ gb152)); have n4_ := Aside0.mk ((by rw [hg]; exact (below_size (by repeat (first | (with_reducible first | exact HB.out | apply below_alloc | apply pw_below_drewN | apply below_drew1 | refine below_set ?_ GE151.out) | exact HB.out))) : w.heap.size ≤ gb152)); have n5_ := Aside0.mk ((by rw [hg]; exact Nat.ne_of_lt (blk_lt (g := gb151) (o := .cells #[.string a0_0, .string a0_1, .string a0_2] 25 (0, 0)) (by (with_reducible repeat (first | refine blk_drewN ?_ _ | refine blk_drew ?_ | refine blk_alloc ?_ _)); exact BK151.out)) : gb151 ≠ gb152)); have n6_ := Aside0.mk ((by rw [hg]; exact Nat.ne_of_gt (blk_lt (g := gb151) (o := .cells #[.string a0_0, .string a0_1, .string a0_2] 25 (0, 0)) (by (with_reducible repeat (first | refine blk_drewN ?_ _ | refine blk_drew ?_ | refine blk_alloc ?_ _)); exact BK151.out)) : gb152 ≠ gb151)); clear BK151; clear HB; have BK151 := n0_; have HB := n1_; have BK152 := n2_; have GW152 := n3_; have GE152 := n4_; have NB151_152 := n5_; have NB152_151 := n6_; clear n0_ n1_ n2_ n3_ n4_ n5_ n6_; clear hb hbox hg; have hnb7 := NB151_152.out; have hnc7 := NB152_151.out; have hcz8_0 : w6.cell? ⟨gb151, 0, none⟩ = some (.string a0_0) := (blk_cell BK151.out 0).trans rfl; have hcz8_1 : w6.cell? ⟨gb151, 1, none⟩ = some (.string a0_1) := (blk_cell BK151.out 1).trans rfl; have hcz8_2 : w6.cell? ⟨gb151, 2, none⟩ = some (.string a0_2) := (blk_cell BK151.out 2).trans rfl; have hfz8_0 := blk_frozen BK151.out 0; have hfz8_1 := blk_frozen BK151.out 1; have hfz8_2 := blk_frozen BK151.out 2; have hcz9_0 : w6.cell? ⟨gb152, 0, none⟩ = some (.string a1_0) := (blk_cell BK152.out 0).trans rfl; have hcz9_1 : w6.cell? ⟨gb152, 1, none⟩ = some (.string a1_1) := (blk_cell BK152.out 1).trans rfl; have hcz9_2 : w6.cell? ⟨gb152, 2, none⟩ = some (.string a1_2) := (blk_cell BK152.out 2).trans rfl; have hfz9_0 := blk_frozen BK152.out 0; have hfz9_1 := blk_frozen BK152.out 1; have hfz9_2 := blk_frozen BK152.out 2))
      go_ret
      exact ⟨by first | rfl | (simp [errW_none, errW_some] <;> rfl) | (simp [*, errW_none, errW_some] <;> rfl), by repeat (first | (with_reducible first | exact HB.out | apply below_alloc | apply pw_below_drewN | apply below_drew1 | refine below_set ?_ GE151.out | refine below_set ?_ GE152.out) | exact HB.out)⟩
    · rw [if_neg c4] at H
      have c4b0 : (a0_1.toList == a1_1.toList) = false := beq_eq_false_iff_ne.mpr c4
      have c4b1 : (a0_1.toList != a1_1.toList) = true := bne_iff_ne.mpr c4
      obtain rfl := Option.some.inj H
      go_enter Try.func45, Try.ntmps45
      go_wp2_with (first | ((with_reducible refine gate_dst (N := 2) rfl ?_); refine box_event ?hg (N := 2) ?hd (cs := #[.string a0_0, .string a0_1, .string a0_2]) (t := 25) ?hr ?_; (case hd => rfl); (case hg => rfl); (case hr => first | (go_simp; done) | (go_simp; rfl)); intro gb151 hg w10 hbox hb; have n0_ := Aside0.mk (below_step (by repeat (first | (with_reducible first | exact HB.out | apply below_alloc | apply pw_below_drewN | apply below_drew1) | exact HB.out)) hb); have n1_ := Aside0.mk (hbox); have n2_ := Aside0.mk ((by rw [hg]; exact (below_size (by repeat (first | (with_reducible first | exact HB.out | apply below_alloc | apply pw_below_drewN | apply below_drew1) | exact HB.out))) : w.heap.size ≤ gb151)); have n3_ := Aside0.mk ((by rw [hg]; exact (below_size (by repeat (first | (with_reducible first | exact HB.out | apply below_alloc | apply pw_below_drewN | apply below_drew1) | exact HB.out))) : w.heap.size ≤ gb151)); clear HB; have HB := n0_; have BK151 := n1_; have GW151 := n2_; have GE151 := n3_; clear n0_ n1_ n2_ n3_; clear hb hbox hg) | ((with_reducible refine gate_dst (N := 3) rfl ?_); refine box_event ?hg (N := 3) ?hd (cs := #[.string a1_0, .string a1_1, .string a1_2]) (t := 25) ?hr ?_; (case hd => rfl); (case hg => rfl); (case hr => first | (go_simp; done) | (go_simp; rfl)); intro gb152 hg w11 hbox hb; have n0_ := Aside0.mk (blk_below (g := gb151) (o := .cells #[.string a0_0, .string a0_1, .string a0_2] 25 (0, 0)) (by (with_reducible repeat (first | refine blk_drewN ?_ _ | refine blk_drew ?_ | refine blk_alloc ?_ _)); exact BK151.out) hb); have n1_ := Aside0.mk (below_step (by repeat (first | (with_reducible first | exact HB.out | apply below_alloc | apply pw_below_drewN | apply below_drew1 | refine below_set ?_ GE151.out) | exact HB.out)) hb); have n2_ := Aside0.mk (hbox); have n3_ := Aside0.mk ((by rw [hg]; exact (below_size (by repeat (first | (with_reducible first | exact HB.out | apply below_alloc | apply pw_below_drewN | apply below_drew1 | refine below_set ?_ GE151.out) | exact HB.out))) : w.heap.size ≤ gb152)); have n4_ := Aside0.mk ((by rw [hg]; exact (below_size (by repeat (first | (with_reducible first | exact HB.out | apply below_alloc | apply pw_below_drewN | apply below_drew1 | refine below_set ?_ GE151.out) | exact HB.out))) : w.heap.size ≤ gb152)); have n5_ := Aside0.mk ((by rw [hg]; exact Nat.ne_of_lt (blk_lt (g := gb151) (o := .cells #[.string a0_0, .string a0_1, .string a0_2] 25 (0, 0)) (by (with_reducible repeat (first | refine blk_drewN ?_ _ | refine blk_drew ?_ | refine blk_alloc ?_ _)); exact BK151.out)) : gb151 ≠ gb152)); have n6_ := Aside0.mk ((by rw [hg]; exact Nat.ne_of_gt (blk_lt (g := gb151) (o := .cells #[.string a0_0, .string a0_1, .string a0_2] 25 (0, 0)) (by (with_reducible repeat (first | refine blk_drewN ?_ _ | refine blk_drew ?_ | refine blk_alloc ?_ _)); exact BK151.out)) : gb152 ≠ gb151)); clear BK151; clear HB; have BK151 := n0_; have HB := n1_; have BK152 := n2_; have GW152 := n3_; have GE152 := n4_; have NB151_152 := n5_; have NB152_151 := n6_; clear n0_ n1_ n2_ n3_ n4_ n5_ n6_; clear hb hbox hg; have hnb12 := NB151_152.out; have hnc12 := NB152_151.out; have hcz13_0 : w11.cell? ⟨gb151, 0, none⟩ = some (.string a0_0) := (blk_cell BK151.out 0).trans rfl; have hcz13_1 : w11.cell? ⟨gb151, 1, none⟩ = some (.string a0_1) := (blk_cell BK151.out 1).trans rfl; have hcz13_2 : w11.cell? ⟨gb151, 2, none⟩ = some (.string a0_2) := (blk_cell BK151.out 2).trans rfl; have hfz13_0 := blk_frozen BK151.out 0; have hfz13_1 := blk_frozen BK151.out 1; have hfz13_2 := blk_frozen BK151.out 2; have hcz14_0 : w11.cell? ⟨gb152, 0, none⟩ = some (.string a1_0) := (blk_cell BK152.out 0).trans rfl; have hcz14_1 : w11.cell? ⟨gb152, 1, none⟩ = some (.string a1_1) := (blk_cell BK152.out 1).trans rfl; have hcz14_2 : w11.cell? ⟨gb152, 2, none⟩ = some (.string a1_2) := (blk_cell BK152.out 2).trans rfl; have hfz14_0 := blk_frozen BK152.out 0; have hfz14_1 := blk_frozen BK152.out 1; have hfz14_2 := blk_frozen BK152.out 2))
      go_ret
      exact ⟨by first | rfl | (simp [errW_none, errW_some] <;> rfl) | (simp [*, errW_none, errW_some] <;> rfl), by repeat (first | (with_reducible first | exact HB.out | apply below_alloc | apply pw_below_drewN | apply below_drew1 | refine below_set ?_ GE151.out | refine below_set ?_ GE152.out) | exact HB.out)⟩
  · rw [if_neg c3] at H
    have c3b0 : (a0_0.toList == a1_0.toList) = false := beq_eq_false_iff_ne.mpr c3
    have c3b1 : (a0_0.toList != a1_0.toList) = true := bne_iff_ne.mpr c3
    obtain rfl := Option.some.inj H
    go_enter Try.func45, Try.ntmps45
    go_wp2_with (first | ((with_reducible refine gate_dst (N := 2) rfl ?_); refine box_event ?hg (N := 2) ?hd (cs := #[.string a0_0, .string a0_1, .string a0_2]) (t := 25) ?hr ?_; (case hd => rfl); (case hg => rfl); (case hr => first | (go_simp; done) | (go_simp; rfl)); intro gb151 hg w15 hbox hb; have n0_ := Aside0.mk (below_step (by repeat (first | (with_reducible first | exact HB.out | apply below_alloc | apply pw_below_drewN | apply below_drew1) | exact HB.out)) hb); have n1_ := Aside0.mk (hbox); have n2_ := Aside0.mk ((by rw [hg]; exact (below_size (by repeat (first | (with_reducible first | exact HB.out | apply below_alloc | apply pw_below_drewN | apply below_drew1) | exact HB.out))) : w.heap.size ≤ gb151)); have n3_ := Aside0.mk ((by rw [hg]; exact (below_size (by repeat (first | (with_reducible first | exact HB.out | apply below_alloc | apply pw_below_drewN | apply below_drew1) | exact HB.out))) : w.heap.size ≤ gb151)); clear HB; have HB := n0_; have BK151 := n1_; have GW151 := n2_; have GE151 := n3_; clear n0_ n1_ n2_ n3_; clear hb hbox hg) | ((with_reducible refine gate_dst (N := 3) rfl ?_); refine box_event ?hg (N := 3) ?hd (cs := #[.string a1_0, .string a1_1, .string a1_2]) (t := 25) ?hr ?_; (case hd => rfl); (case hg => rfl); (case hr => first | (go_simp; done) | (go_simp; rfl)); intro gb152 hg w16 hbox hb; have n0_ := Aside0.mk (blk_below (g := gb151) (o := .cells #[.string a0_0, .string a0_1, .string a0_2] 25 (0, 0)) (by (with_reducible repeat (first | refine blk_drewN ?_ _ | refine blk_drew ?_ | refine blk_alloc ?_ _)); exact BK151.out) hb); have n1_ := Aside0.mk (below_step (by repeat (first | (with_reducible first | exact HB.out | apply below_alloc | apply pw_below_drewN | apply below_drew1 | refine below_set ?_ GE151.out) | exact HB.out)) hb); have n2_ := Aside0.mk (hbox); have n3_ := Aside0.mk ((by rw [hg]; exact (below_size (by repeat (first | (with_reducible first | exact HB.out | apply below_alloc | apply pw_below_drewN | apply below_drew1 | refine below_set ?_ GE151.out) | exact HB.out))) : w.heap.size ≤ gb152)); have n4_ := Aside0.mk ((by rw [hg]; exact (below_size (by repeat (first | (with_reducible first | exact HB.out | apply below_alloc | apply pw_below_drewN | apply below_drew1 | refine below_set ?_ GE151.out) | exact HB.out))) : w.heap.size ≤ gb152)); have n5_ := Aside0.mk ((by rw [hg]; exact Nat.ne_of_lt (blk_lt (g := gb151) (o := .cells #[.string a0_0, .string a0_1, .string a0_2] 25 (0, 0)) (by (with_reducible repeat (first | refine blk_drewN ?_ _ | refine blk_drew ?_ | refine blk_alloc ?_ _)); exact BK151.out)) : gb151 ≠ gb152)); have n6_ := Aside0.mk ((by rw [hg]; exact Nat.ne_of_gt (blk_lt (g := gb151) (o := .cells #[.string a0_0, .string a0_1, .string a0_2] 25 (0, 0)) (by (with_reducible repeat (first | refine blk_drewN ?_ _ | refine blk_drew ?_ | refine blk_alloc ?_ _)); exact BK151.out)) : gb152 ≠ gb151)); clear BK151; clear HB; have BK151 := n0_; have HB := n1_; have BK152 := n2_; have GW152 := n3_; have GE152 := n4_; have NB151_152 := n5_; have NB152_151 := n6_; clear n0_ n1_ n2_ n3_ n4_ n5_ n6_; clear hb hbox hg; have hnb17 := NB151_152.out; have hnc17 := NB152_151.out; have hcz18_0 : w16.cell? ⟨gb151, 0, none⟩ = some (.string a0_0) := (blk_cell BK151.out 0).trans rfl; have hcz18_1 : w16.cell? ⟨gb151, 1, none⟩ = some (.string a0_1) := (blk_cell BK151.out 1).trans rfl; have hcz18_2 : w16.cell? ⟨gb151, 2, none⟩ = some (.string a0_2) := (blk_cell BK151.out 2).trans rfl; have hfz18_0 := blk_frozen BK151.out 0; have hfz18_1 := blk_frozen BK151.out 1; have hfz18_2 := blk_frozen BK151.out 2; have hcz19_0 : w16.cell? ⟨gb152, 0, none⟩ = some (.string a1_0) := (blk_cell BK152.out 0).trans rfl; have hcz19_1 : w16.cell? ⟨gb152, 1, none⟩ = some (.string a1_1) := (blk_cell BK152.out 1).trans rfl; have hcz19_2 : w16.cell? ⟨gb152, 2, none⟩ = some (.string a1_2) := (blk_cell BK152.out 2).trans rfl; have hfz19_0 := blk_frozen BK152.out 0; have hfz19_1 := blk_frozen BK152.out 1; have hfz19_2 := blk_frozen BK152.out 2))
    go_ret
    exact ⟨by first | rfl | (simp [errW_none, errW_some] <;> rfl) | (simp [*, errW_none, errW_some] <;> rfl), by repeat (first | (with_reducible first | exact HB.out | apply below_alloc | apply pw_below_drewN | apply below_drew1 | refine below_set ?_ GE151.out | refine below_set ?_ GE152.out) | exact HB.out)⟩

end Go.Proofs.Ytgjkidclpehnjaa.Pr

namespace Go.Proofs.Ytgjkidclpehnjaa.Pr
open Go.Proofs.Ytgjkidclpehnjaa Go.Sort

end Go.Proofs.Ytgjkidclpehnjaa.Pr

namespace Go.Proofs.Ytgjkidclpehnjaa.Pr
open Go.Proofs.Ytgjkidclpehnjaa Go.Sort Go.RowKit

theorem wrap_step (i : Nat) (h : i < 4294967296) : wrap64 ((i : Int) + 1) = ((i + 1 : Nat) : Int) := by
  unfold wrap64; omega
theorem tuples_self (l : List T) (hl : l.length < 4294967296) : ∀ (d i k : Nat), i + d = l.length → d < k → porterlaw22_tuples.l0 k l l (l.length : Int) (i : Int) = some true
  | 0, i, 0, _, hk => by omega
  | 0, i, k + 1, hi, _ => by
    rw [porterlaw22_tuples.l0, if_neg (by omega)]
  | d + 1, i, 0, _, hk => by omega
  | d + 1, i, k + 1, hi, hk => by
    rw [porterlaw22_tuples.l0, if_pos (by omega), if_pos (by omega), if_pos (by omega), if_pos (by omega), if_neg (by simp), wrap_step i (by omega)]
    exact tuples_self l hl d (i + 1) k (by omega) (by omega)
theorem tuples_f_self (l : List T) (hl : l.length < 4294967296) (k : Nat) (hk : l.length < k) : porterlaw22_tuples.f k l l = some true := by
  unfold porterlaw22_tuples.f
  rw [if_pos rfl]
  exact tuples_self l hl l.length 0 k (by omega) (by omega)

end Go.Proofs.Ytgjkidclpehnjaa.Pr

namespace Go.Proofs.Ytgjkidclpehnjaa.Pr
open Go.RowKit Go.Proofs.YtgjkidclpehnjaaW.PrintWords Go.Proofs.YtgjkidclpehnjaaW.PrintLast Go.Proofs.YtgjkidclpehnjaaW.PrintMore
attribute [local go_sem] max2_int min2_int max_two min_two max_three min_three max_four min_four   -- for this text's walks alone
set_option linter.unusedVariables false
set_option linter.unusedSimpArgs false

attribute [local go_sem high] eqA25
/-! ### porterref05_With: function 30 -/
def porterref05_With.l0 : Nat → List (S25) → List (S25) → Bool → Int → ByteArray → ByteArray → ByteArray → Option ((List (S25)))
  | 0, _, _, _, _, _, _, _ => none
  | k + 1, x0, x5, x6, x7, x154000, x154001, x154002 => if x7 < (x0.length : Int) then (if 0 ≤ x7 then (if ((((rd_T25 x0 x7).f0).toList) == x154000.toList && ((((rd_T25 x0 x7).f1).toList) == x154001.toList && ((((rd_T25 x0 x7).f2).toList) == x154002.toList))) = true then (some x0) else (if x6 = true then (if x5.length < 2932031007402 then (porterref05_With.l0 k x0 (x5 ++ [(⟨(rd_T25 x0 x7).f0, (rd_T25 x0 x7).f1, (rd_T25 x0 x7).f2⟩ : S25)]) x6 (wrap64 (x7 + 1)) x154000 x154001 x154002) else (none)) else ((porterref05_Less.f x154000 x154001 x154002 ((rd_T25 x0 x7).f0) ((rd_T25 x0 x7).f1) ((rd_T25 x0 x7).f2)).bind fun t163 => (if t163 = true then (if x5.length < 2932031007402 then ((some (x5 ++ [(⟨x154000, x154001, x154002⟩ : S25)] : List (S25))).bind fun y164 => (if y164.length < 2932031007402 then (porterref05_With.l0 k x0 (y164 ++ [(⟨(rd_T25 x0 x7).f0, (rd_T25 x0 x7).f1, (rd_T25 x0 x7).f2⟩ : S25)]) true (wrap64 (x7 + 1)) x154000 x154001 x154002) else (none))) else (none)) else (if x5.length < 2932031007402 then (porterref05_With.l0 k x0 (x5 ++ [(⟨(rd_T25 x0 x7).f0, (rd_T25 x0 x7).f1, (rd_T25 x0 x7).f2⟩ : S25)]) x6 (wrap64 (x7 + 1)) x154000 x154001 x154002) else (none)))))) else (none)) else (if x6 = true then (some x5) else (if x5.length < 2932031007402 then (some (x5 ++ [(⟨x154000, x154001, x154002⟩ : S25)])) else (none)))
def porterref05_With.f (k : Nat) (l0 : List (S25)) (a1_0 : ByteArray) (a1_1 : ByteArray) (a1_2 : ByteArray) : Option ((List (S25))) := porterref05_With.l0 k l0 ([] : List (S25)) false 0 a1_0 a1_1 a1_2
theorem porterref05_With.mono_l : ∀ k, (∀ y0 y1 y2 y3 y4 y5 y6, LeO (porterref05_With.l0 k y0 y1 y2 y3 y4 y5 y6) (porterref05_With.l0 (k + 1) y0 y1 y2 y3 y4 y5 y6))
  | 0 => fun _ _ _ _ _ _ _ r h => by simp [porterref05_With.l0] at h
  | k + 1 => by
    have ih0 := porterref05_With.mono_l k
    · intro y0 y1 y2 y3 y4 y5 y6
      unfold porterref05_With.l0
      repeat' first
      | (with_reducible exact ih0 _ _ _ _ _ _ _)
      | (with_reducible exact LeO.refl _)
      | (with_reducible exact LeO.none _)
      | (with_reducible refine LeO.ite ?_ ?_)
      | (with_reducible refine LeO.bind ?_ (fun _ => ?_))
      | exact ih0 _ _ _ _ _ _ _
      | exact LeO.none _
      | refine LeO.ite ?_ ?_
      | refine LeO.bind ?_ (fun _ => ?_)
theorem porterref05_With.mono : ∀ a0 a1 a2 a3 k, LeO (porterref05_With.f k a0 a1 a2 a3) (porterref05_With.f (k + 1) a0 a1 a2 a3) := by
  intro a0 a1 a2 a3 k
  have ih0 := porterref05_With.mono_l k
  unfold porterref05_With.f
  repeat' first
      | (with_reducible exact ih0 _ _ _ _ _ _ _)
      | (with_reducible exact LeO.refl _)
      | (with_reducible exact LeO.none _)
      | (with_reducible refine LeO.ite ?_ ?_)
      | (with_reducible refine LeO.bind ?_ (fun _ => ?_))
      | exact ih0 _ _ _ _ _ _ _
      | exact LeO.none _
      | refine LeO.ite ?_ ?_
      | refine LeO.bind ?_ (fun _ => ?_)
def porterref05_With.T8 : Bool × List (List Nat × List Nat) := (true, [([], []), ([0], [0]), ([1], [1]), ([2], [2]), ([2], [2]), ([2], [2]), ([4, 5, 2], [2, 4, 5]), ([6, 2], [2, 6]), ([3, 7, 2, 2], [2, 3, 7]), ([2, 8], [2, 8])])
def porterref05_With.B8 : List Nat := [0, 1, 3, 7, 7, 7, 55, 119, 255, 511]
theorem porterref05_With.tab8 : rtab .any (opsOf Try.f30 8) = porterref05_With.T8 := by kernel_rfl
theorem porterref05_With.bits8 : waitsOk porterref05_With.T8.2 porterref05_With.B8 = true := by kernel_rfl
set_option maxHeartbeats 8000000 in
set_option maxRecDepth 100000 in
theorem porterref05_With.calls (k : Nat) (P0_ : Nat → Prop) (u9000_ : Value) (l0 : List (S25)) (a1_0 : ByteArray) (a1_1 : ByteArray) (a1_2 : ByteArray) (r : List (S25)) (w0 w : World) (hB : Below w0.heap.size w0 w) (ho0 : Kd.R k25 25 w w0.heap.size P0_ u9000_ l0) (h : porterref05_With.f k l0 a1_0 a1_1 a1_2 = some r) :
    Calls Try.prog 30 #[u9000_, .agg #[.string a1_0, .string a1_1, .string a1_2]] w fun e w' => ∃ v0_ : Value, e = .returned (v0_) ∧ Kd.R k25 25 w' w0.heap.size (fun k_ => (P0_ k_ ∨ w.heap.size ≤ k_)) v0_ r ∧ Below w0.heap.size w0 w' ∧ Kept w w' (fun k_ => P0_ k_) := by
  have hu25 := Try.underlying25
  have HO0 := Aside0.mk (show Kd.R k25 25 w w0.heap.size (fun k_ => (P0_ k_ ∨ w.heap.size ≤ k_)) u9000_ l0 from Kd.R_mono ho0 (fun k_ hk => (.inl hk)))
  have HK := Aside0.mk (Kept.refl w (fun k_ => P0_ k_))
  have HW0 := Aside0.mk hB.size
  have HB := Aside0.mk hB
  clear hB
  have H : (porterref05_With.l0 k l0 ([] : List (S25)) false 0 a1_0 a1_1 a1_2) = some r := h
  clear h
  have H' := Aside0.mk H
  clear H
  go_enter Try.func30, Try.ntmps30
  go_wp2_with (first | ((with_reducible refine gate_dst (N := 3) rfl ?_); refine box_event ?hg (N := 3) ?hd (cs := #[.string a1_0, .string a1_1, .string a1_2]) (t := 25) ?hr ?_; (case hd => rfl); (case hg => rfl); (case hr => first | (go_simp; done) | (go_simp; rfl)); intro gb153 hg w3 hbox hb; have n0_ := Aside0.mk (Kd.R_below (Kd.R_elderB (by (with_reducible repeat (first | apply Kd.R_alloc | apply Kd.R_drewN | apply Kd.R_drew)); exact HO0.out) gb153 (Nat.le_of_eq hg.symm)) hb); have n1_ := Aside0.mk (Kept.below (S := (fun k_ => P0_ k_)) (by repeat (first | (with_reducible first | exact HK.out | apply Kept.alloc | apply Kept.drewN | apply Kept.drew) | exact HK.out)) hb); have n2_ := Aside0.mk (below_step (by repeat (first | (with_reducible first | exact HB.out | apply below_alloc | apply pw_below_drewN | apply below_drew1) | exact HB.out)) hb); have n3_ := Aside0.mk (hbox); have n4_ := Aside0.mk ((by rw [hg]; exact (by first | exact HK.out.1 | exact (show Kept w _ (fun k_ => P0_ k_) from by repeat (first | (with_reducible first | exact HK.out | apply Kept.alloc | apply Kept.drewN | apply Kept.drew) | exact HK.out)).1) : w.heap.size ≤ gb153)); have n5_ := Aside0.mk ((by rw [hg]; exact (below_size (by repeat (first | (with_reducible first | exact HB.out | apply below_alloc | apply pw_below_drewN | apply below_drew1) | exact HB.out))) : w0.heap.size ≤ gb153)); clear HO0; clear HK; clear HB; have HO0 := n0_; have HK := n1_; have HB := n2_; have BK153 := n3_; have GW153 := n4_; have GE153 := n5_; clear n0_ n1_ n2_ n3_ n4_ n5_; clear hb hbox hg))
  go_loopg [5, 6, 7] k (fun kq v5 v6 v7 w' => ∃ (x5_1 : List (S25)) (x6_1 : Bool) (x7_1 : Int), v6 = .bool x6_1 ∧ v7 = .int .i64 x7_1 ∧ Aside0 (porterref05_With.l0 kq l0 x5_1 x6_1 x7_1 a1_0 a1_1 a1_2 = some r) ∧ Aside0 (kq ≤ k) ∧ Aside0 (Kd.R k25 25 w' w0.heap.size (fun k_ => (P0_ k_ ∨ w.heap.size ≤ k_) ∧ some k_ ≠ (v5 : Value).ownBlock ∧ k_ ≠ gb153) u9000_ l0) ∧ Aside0 (Kd.R k25 25 w' w0.heap.size (fun k_ => (P0_ k_ ∨ w.heap.size ≤ k_) ∧ some k_ ≠ (u9000_ : Value).ownBlock ∧ k_ ≠ gb153) v5 x5_1) ∧ Aside0 (w'.heap[gb153]? = some (.cells #[.string a1_0, .string a1_1, .string a1_2] 25 (0, 0))) ∧ Aside0 (Kept w w' (fun k_ => P0_ k_)) ∧ Aside0 (Below w0.heap.size w0 w'))
  case atStart => exact ⟨(([] : List (S25))), (false), (0), (by first | rfl | (simp; done) | (simp [*]; done)), (by first | rfl | (simp; done) | (simp [*]; done)), H', ⟨Nat.le_refl _⟩, ⟨by (with_reducible repeat (first | apply Kd.R_alloc | apply Kd.R_drewN | apply Kd.R_drew)); exact Kd.R_mono HO0.out (fun _ hk => ⟨hk.1, ⟨(by simp [Value.ownBlock]), hk.2⟩⟩)⟩, ⟨by first | exact Kd.R_nil _ _ _ _ _ | exact Kd.N_nil _ _ _ _ _ | exact Kd.V_nil _ _ _ _ _ | exact Kd.Q_nil _ _ _ _ _ | exact Kd.S_nil _ _ _ _ _⟩, ⟨by (with_reducible repeat (first | refine blk_drewN ?_ _ | refine blk_drew ?_ | refine blk_alloc ?_ _)); exact BK153.out⟩, ⟨by repeat (first | (with_reducible first | exact HK.out | apply Kept.alloc | apply Kept.drewN | apply Kept.drew | refine Kept.setCell ?_ (.inr GW153.out) _) | exact HK.out)⟩, ⟨by repeat (first | (with_reducible first | exact HB.out | apply below_alloc | apply pw_below_drewN | apply below_drew1 | refine below_set ?_ GE153.out) | exact HB.out)⟩⟩
  case round =>
    clear H'
    try clear p2
    try clear c3
    obtain ⟨x5_1, x6_1, x7_1, rfl, rfl, HA, HK1, HO_0, HO_5, BK153, HK, HB⟩ := hrel
    cases gk with
    | zero => exact absurd HA.out (by simp [porterref05_With.l0])
    | succ k1 =>
      have H := HA.out
      clear HA
      simp only [porterref05_With.l0] at H
      by_cases c4 : x7_1 < (l0.length : Int)
      · rw [if_pos c4] at H
        have c4b0 : decide (x7_1 < (l0.length : Int)) = true := decide_eq_true c4
        clear c4
        by_cases c5 : 0 ≤ x7_1
        · rw [if_pos c5] at H
          have c5b0 : decide (0 ≤ x7_1) = true := decide_eq_true c5
          clear c5
          by_cases c6 : ((((rd_T25 l0 x7_1).f0).toList) == a1_0.toList && ((((rd_T25 l0 x7_1).f1).toList) == a1_1.toList && ((((rd_T25 l0 x7_1).f2).toList) == a1_2.toList))) = true
          · rw [if_pos c6] at H
            have c6b0 : ((((rd_T25 l0 x7_1).f0).toList) == a1_0.toList && ((((rd_T25 l0 x7_1).f1).toList) == a1_1.toList && ((((rd_T25 l0 x7_1).f2).toList) == a1_2.toList))) = true := c6
            (try (have c6b1 : decide ((((rd_T25 l0 x7_1).f0).toList) = a1_0.toList && ((((rd_T25 l0 x7_1).f1).toList) == a1_1.toList && ((((rd_T25 l0 x7_1).f2).toList) == a1_2.toList))) = true := by simpa using c6))
            (try (have c6b2 : ((((rd_T25 l0 x7_1).f0).toList) == a1_0.toList && ((((rd_T25 l0 x7_1).f1).toList) == a1_1.toList && ((((rd_T25 l0 x7_1).f2).toList) == a1_2.toList))) = true := by simpa using c6))
            clear c6
            obtain rfl := Option.some.inj H
            obtain ⟨Ao7, co7, eo7⟩ := Kd.R_slice HO_0.out
            subst eo7
            try go_wp2
            have n0_ := Aside0.mk (Kd.R_drew HO_0.out)
            have n1_ := Aside0.mk (Kd.R_drew HO_5.out)
            have n2_ := Aside0.mk (blk_drew BK153.out)
            have n3_ := Aside0.mk (Kept.drew HK.out)
            have n4_ := Aside0.mk (below_drew1 HB.out)
            clear HO_0
            clear HO_5
            clear BK153
            clear HK
            clear HB
            have HO_0 := n0_
            have HO_5 := n1_
            have BK153 := n2_
            have HK := n3_
            have HB := n4_
            clear n0_ n1_ n2_ n3_ n4_
            have p157 : 0 ≤ (x7_1 : Int) := of_decide_eq_true (by first | (with_reducible assumption) | assumption)
            have q157 : x7_1 < (l0.length : Int) := of_decide_eq_true (by first | (with_reducible assumption) | assumption)
            obtain ⟨ad157, e157, hx157_0, hx157_1, hx157_2⟩ := at_T25 (Kd.R_reads' HO_0.out).2.2 x7_1 p157 q157
            cases e157
            replace p157 := eq_true p157
            replace q157 := eq_true q157
            refine start_ (n := 6) (S := fun w' => w'.cell? ⟨gb153, 0, none⟩ = some (.string a1_0) ∧ w'.cell? ⟨gb153, 1, none⟩ = some (.string a1_1) ∧ w'.cell? ⟨gb153, 2, none⟩ = some (.string a1_2) ∧ w'.cell? (ad157.add ((x7_1).toNat * 3)) = some (.string ((rd_T25 l0 x7_1).f0)) ∧ w'.cell? ⟨(ad157.add ((x7_1).toNat * 3)).block, (ad157.add ((x7_1).toNat * 3)).off + 1, none⟩ = some (.string ((rd_T25 l0 x7_1).f1)) ∧ w'.cell? ⟨(ad157.add ((x7_1).toNat * 3)).block, (ad157.add ((x7_1).toNat * 3)).off + 2, none⟩ = some (.string ((rd_T25 l0 x7_1).f2))) (ds := []) #[false, false, false, false, false, false] (by kernel_rfl) rfl rfl ⟨(blk_cell BK153.out 0).trans rfl, (blk_cell BK153.out 1).trans rfl, (blk_cell BK153.out 2).trans rfl, hx157_0, hx157_1, hx157_2⟩ (fun hHeld => ?_)
            generalize wr.drew = w8 at HO_0 HO_5 BK153 HK HB hx157_0 hx157_1 hx157_2 hHeld ⊢
            refine pure_ (i := 0) (N := some 14) (v := ?_) (a' := ?_) #[true, false, false, false, false, false] rfl rfl (by kernel_rfl) (fun _ _ _ h => h) (Or.inl ⟨by rfl, ?_⟩) ?_ ?_
            rotate_left
            · intro w'
              go_simp
              with_reducible rfl
            rotate_left
            · simp only [Act.put, List.setIfInBounds_toArray, List.set_cons_zero, List.set_cons_succ, i64_w, i32_w]
              rfl
            refine pure_ (i := 1) (N := some 15) (v := ?_) (a' := ?_) #[true, true, false, false, false, false] rfl rfl (by kernel_rfl) (fun _ _ _ h => h) (Or.inl ⟨by rfl, ?_⟩) ?_ ?_
            rotate_left
            · intro w'
              go_simp
              with_reducible rfl
            rotate_left
            · simp only [Act.put, List.setIfInBounds_toArray, List.set_cons_zero, List.set_cons_succ, i64_w, i32_w]
              rfl
            refine pure_ (i := 2) (N := some 16) (v := ?_) (a' := ?_) #[true, true, true, false, false, false] rfl rfl (by kernel_rfl) (fun _ _ _ h => h) (Or.inl ⟨by rfl, ?_⟩) ?_ ?_
            rotate_left
            · intro w'
              go_simp
              with_reducible rfl
            rotate_left
            · simp only [Act.put, List.setIfInBounds_toArray, List.set_cons_zero, List.set_cons_succ, i64_w, i32_w]
              rfl
            refine take_ (i := 3) (N := some 17) (v := ?_) (a' := ?_) #[true, true, true, true, false, false] rfl rfl (by kernel_rfl) (fun _ _ _ h => h) (Or.inl ⟨by rfl, ?_⟩) hHeld ?_ ?_
            rotate_left
            · rintro w' ⟨s0, s1, s2, s3, s4, s5⟩
              go_simp
              with_reducible rfl
            rotate_left
            · simp only [Act.put, List.setIfInBounds_toArray, List.set_cons_zero, List.set_cons_succ, i64_w, i32_w]
              rfl
            refine take_ (i := 4) (N := some 18) (v := ?_) (a' := ?_) #[true, true, true, true, true, false] rfl rfl (by kernel_rfl) (fun _ _ _ h => h) (Or.inl ⟨by rfl, ?_⟩) hHeld ?_ ?_
            rotate_left
            · rintro w' ⟨s0, s1, s2, s3, s4, s5⟩
              go_simp
              with_reducible rfl
            rotate_left
            · simp only [Act.put, List.setIfInBounds_toArray, List.set_cons_zero, List.set_cons_succ, i64_w, i32_w]
              rfl
            refine pure_ (i := 5) (N := some 19) (v := ?_) (a' := ?_) #[true, true, true, true, true, true] rfl rfl (by kernel_rfl) (fun _ _ _ h => h) (Or.inl ⟨by rfl, ?_⟩) ?_ ?_
            rotate_left
            · intro w'
              go_simp
              with_reducible rfl
            rotate_left
            · simp only [Act.put, List.setIfInBounds_toArray, List.set_cons_zero, List.set_cons_succ, i64_w, i32_w]
              rfl
            refine done_ (by kernel_rfl) ?_
            try go_wp2
            go_ret
            exact ⟨_, by first | rfl | (simp [errW_none, errW_some] <;> rfl) | (simp [*, errW_none, errW_some] <;> rfl), by (with_reducible repeat (first | apply Kd.R_alloc | apply Kd.R_drewN | apply Kd.R_drew)); exact Kd.R_mono HO_0.out (fun _ hk => hk.1), by repeat (first | (with_reducible first | exact HB.out | apply below_alloc | apply pw_below_drewN | apply below_drew1 | refine below_set ?_ GE153.out) | exact HB.out), by repeat (first | (with_reducible first | exact HK.out | apply Kept.alloc | apply Kept.drewN | apply Kept.drew | refine Kept.setCell ?_ (.inr GW153.out) _) | exact HK.out)⟩
          · rw [if_neg c6] at H
            have c6b0 : ((((rd_T25 l0 x7_1).f0).toList) == a1_0.toList && ((((rd_T25 l0 x7_1).f1).toList) == a1_1.toList && ((((rd_T25 l0 x7_1).f2).toList) == a1_2.toList))) = false := by simpa using c6
            (try (have c6b1 : decide ((((rd_T25 l0 x7_1).f0).toList) = a1_0.toList && ((((rd_T25 l0 x7_1).f1).toList) == a1_1.toList && ((((rd_T25 l0 x7_1).f2).toList) == a1_2.toList))) = false := by simpa using c6))
            (try (have c6b2 : ((((rd_T25 l0 x7_1).f0).toList) == a1_0.toList && ((((rd_T25 l0 x7_1).f1).toList) == a1_1.toList && ((((rd_T25 l0 x7_1).f2).toList) == a1_2.toList))) = false := by simpa using c6))
            (try (have c6b3 : ¬ ((((rd_T25 l0 x7_1).f0).toList) = a1_0.toList && ((((rd_T25 l0 x7_1).f1).toList) == a1_1.toList && ((((rd_T25 l0 x7_1).f2).toList) == a1_2.toList))) := by simpa using c6))
            clear c6
            by_cases c9 : x6_1 = true
            · subst c9
              have H1 : (if x5_1.length < 2932031007402 then (porterref05_With.l0 k1 l0 (x5_1 ++ [(⟨(rd_T25 l0 x7_1).f0, (rd_T25 l0 x7_1).f1, (rd_T25 l0 x7_1).f2⟩ : S25)]) true (wrap64 (x7_1 + 1)) a1_0 a1_1 a1_2) else (none)) = some r := by rw [if_pos rfl] at H; exact H
              clear H
              have H := H1
              clear H1
              by_cases c10 : x5_1.length < 2932031007402
              · rw [if_pos c10] at H
                have LMc10 := Aside0.mk c10
                clear c10
                obtain ⟨y159, hy159⟩ : ∃ y_ : List (S25), y_ = (x5_1 ++ [(⟨(rd_T25 l0 x7_1).f0, (rd_T25 l0 x7_1).f1, (rd_T25 l0 x7_1).f2⟩ : S25)]) := ⟨_, rfl⟩
                replace H : (porterref05_With.l0 k1 l0 y159 true (wrap64 (x7_1 + 1)) a1_0 a1_1 a1_2) = some r := by first | (rw [hy159]; with_reducible exact H) | (have H2_ := (Option.bind_some _ _).symm.trans H; rw [hy159]; with_reducible exact H2_) | (have H2_ := (Option.bind_some _ _).symm.trans H; with_reducible exact H2_) | with_reducible exact H | (rw [hy159]; exact H) | exact H
                have Ny159 := Aside0.mk hy159
                clear hy159
                have H' := Aside0.mk H
                clear H
                obtain ⟨Ao11, co11, eo11⟩ := Kd.R_slice HO_0.out
                subst eo11
                try go_wp2
                have n0_ := Aside0.mk (Kd.R_drew HO_0.out)
                have n1_ := Aside0.mk (Kd.R_drew HO_5.out)
                have n2_ := Aside0.mk (blk_drew BK153.out)
                have n3_ := Aside0.mk (Kept.drew HK.out)
                have n4_ := Aside0.mk (below_drew1 HB.out)
                clear HO_0
                clear HO_5
                clear BK153
                clear HK
                clear HB
                have HO_0 := n0_
                have HO_5 := n1_
                have BK153 := n2_
                have HK := n3_
                have HB := n4_
                clear n0_ n1_ n2_ n3_ n4_
                have p157 : 0 ≤ (x7_1 : Int) := of_decide_eq_true (by first | (with_reducible assumption) | assumption)
                have q157 : x7_1 < (l0.length : Int) := of_decide_eq_true (by first | (with_reducible assumption) | assumption)
                obtain ⟨ad157, e157, hx157_0, hx157_1, hx157_2⟩ := at_T25 (Kd.R_reads' HO_0.out).2.2 x7_1 p157 q157
                cases e157
                replace p157 := eq_true p157
                replace q157 := eq_true q157
                refine start_ (n := 6) (S := fun w' => w'.cell? ⟨gb153, 0, none⟩ = some (.string a1_0) ∧ w'.cell? ⟨gb153, 1, none⟩ = some (.string a1_1) ∧ w'.cell? ⟨gb153, 2, none⟩ = some (.string a1_2) ∧ w'.cell? (ad157.add ((x7_1).toNat * 3)) = some (.string ((rd_T25 l0 x7_1).f0)) ∧ w'.cell? ⟨(ad157.add ((x7_1).toNat * 3)).block, (ad157.add ((x7_1).toNat * 3)).off + 1, none⟩ = some (.string ((rd_T25 l0 x7_1).f1)) ∧ w'.cell? ⟨(ad157.add ((x7_1).toNat * 3)).block, (ad157.add ((x7_1).toNat * 3)).off + 2, none⟩ = some (.string ((rd_T25 l0 x7_1).f2))) (ds := []) #[false, false, false, false, false, false] (by kernel_rfl) rfl rfl ⟨(blk_cell BK153.out 0).trans rfl, (blk_cell BK153.out 1).trans rfl, (blk_cell BK153.out 2).trans rfl, hx157_0, hx157_1, hx157_2⟩ (fun hHeld => ?_)
                generalize wr.drew = w12 at HO_0 HO_5 BK153 HK HB hx157_0 hx157_1 hx157_2 hHeld ⊢
                refine pure_ (i := 0) (N := some 14) (v := ?_) (a' := ?_) #[true, false, false, false, false, false] rfl rfl (by kernel_rfl) (fun _ _ _ h => h) (Or.inl ⟨by rfl, ?_⟩) ?_ ?_
                rotate_left
                · intro w'
                  go_simp
                  with_reducible rfl
                rotate_left
                · simp only [Act.put, List.setIfInBounds_toArray, List.set_cons_zero, List.set_cons_succ, i64_w, i32_w]
                  rfl
                refine pure_ (i := 1) (N := some 15) (v := ?_) (a' := ?_) #[true, true, false, false, false, false] rfl rfl (by kernel_rfl) (fun _ _ _ h => h) (Or.inl ⟨by rfl, ?_⟩) ?_ ?_
                rotate_left
                · intro w'
                  go_simp
                  with_reducible rfl
                rotate_left
                · simp only [Act.put, List.setIfInBounds_toArray, List.set_cons_zero, List.set_cons_succ, i64_w, i32_w]
                  rfl
                refine pure_ (i := 2) (N := some 16) (v := ?_) (a' := ?_) #[true, true, true, false, false, false] rfl rfl (by kernel_rfl) (fun _ _ _ h => h) (Or.inl ⟨by rfl, ?_⟩) ?_ ?_
                rotate_left
                · intro w'
                  go_simp
                  with_reducible rfl
                rotate_left
                · simp only [Act.put, List.setIfInBounds_toArray, List.set_cons_zero, List.set_cons_succ, i64_w, i32_w]
                  rfl
                refine take_ (i := 3) (N := some 17) (v := ?_) (a' := ?_) #[true, true, true, true, false, false] rfl rfl (by kernel_rfl) (fun _ _ _ h => h) (Or.inl ⟨by rfl, ?_⟩) hHeld ?_ ?_
                rotate_left
                · rintro w' ⟨s0, s1, s2, s3, s4, s5⟩
                  go_simp
                  with_reducible rfl
                rotate_left
                · simp only [Act.put, List.setIfInBounds_toArray, List.set_cons_zero, List.set_cons_succ, i64_w, i32_w]
                  rfl
                refine take_ (i := 4) (N := some 18) (v := ?_) (a' := ?_) #[true, true, true, true, true, false] rfl rfl (by kernel_rfl) (fun _ _ _ h => h) (Or.inl ⟨by rfl, ?_⟩) hHeld ?_ ?_
                rotate_left
                · rintro w' ⟨s0, s1, s2, s3, s4, s5⟩
                  go_simp
                  with_reducible rfl
                rotate_left
                · simp only [Act.put, List.setIfInBounds_toArray, List.set_cons_zero, List.set_cons_succ, i64_w, i32_w]
                  rfl
                refine pure_ (i := 5) (N := some 19) (v := ?_) (a' := ?_) #[true, true, true, true, true, true] rfl rfl (by kernel_rfl) (fun _ _ _ h => h) (Or.inl ⟨by rfl, ?_⟩) ?_ ?_
                rotate_left
                · intro w'
                  go_simp
                  with_reducible rfl
                rotate_left
                · simp only [Act.put, List.setIfInBounds_toArray, List.set_cons_zero, List.set_cons_succ, i64_w, i32_w]
                  rfl
                refine done_ (by kernel_rfl) ?_
                try go_wp2
                have n0_ := Aside0.mk (Kd.R_drew HO_0.out)
                have n1_ := Aside0.mk (Kd.R_drew HO_5.out)
                have n2_ := Aside0.mk (blk_drew BK153.out)
                have n3_ := Aside0.mk (Kept.drew HK.out)
                have n4_ := Aside0.mk (below_drew1 HB.out)
                clear HO_0
                clear HO_5
                clear BK153
                clear HK
                clear HB
                have HO_0 := n0_
                have HO_5 := n1_
                have BK153 := n2_
                have HK := n3_
                have HB := n4_
                clear n0_ n1_ n2_ n3_ n4_
                refine start_ (n := 10) (S := fun w' => True) (ds := []) #[false, false, false, false, false, false, false, false, false, false] (by kernel_rfl) rfl rfl trivial (fun hHeld => ?_); refine with_tabW porterref05_With.tab8 porterref05_With.bits8 (fun HT_ HW_ => ?_)
                generalize w12.drew = w13 at HO_0 HO_5 BK153 HK HB hHeld ⊢
                refine pure_ (i := 0) (N := some 21) (v := ?_) (a' := ?_) #[true, false, false, false, false, false, false, false, false, false] rfl rfl (any_of HT_.out (by kernel_rfl)) (fun _ _ _ h => h) (Or.inl ⟨by rfl, ?_⟩) ?_ ?_
                rotate_left
                · intro w'
                  go_simp
                  with_reducible rfl
                rotate_left
                · simp only [Act.put, List.setIfInBounds_toArray, List.set_cons_zero, List.set_cons_succ, i64_w, i32_w]
                  rfl
                refine pure_ (i := 1) (N := some 22) (v := ?_) (a' := ?_) #[true, true, false, false, false, false, false, false, false, false] rfl rfl (any_of HT_.out (by kernel_rfl)) (fun _ _ _ h => h) (Or.inl ⟨by rfl, ?_⟩) ?_ ?_
                rotate_left
                · intro w'
                  go_simp
                  with_reducible rfl
                rotate_left
                · simp only [Act.put, List.setIfInBounds_toArray, List.set_cons_zero, List.set_cons_succ, i64_w, i32_w]
                  rfl
                refine pure_ (i := 2) (N := some 23) (v := ?_) (a' := ?_) #[true, true, true, false, false, false, false, false, false, false] rfl rfl (any_of HT_.out (by kernel_rfl)) (fun _ _ _ h => h) (Or.inl ⟨by rfl, ?_⟩) ?_ ?_
                rotate_left
                · intro w'
                  go_simp
                  with_reducible rfl
                rotate_left
                · simp only [Act.put, List.setIfInBounds_toArray, List.set_cons_zero, List.set_cons_succ, i64_w, i32_w]
                  rfl
                refine pure_ (i := 3) (N := some 24) (v := undef) (a' := ?_) #[true, true, true, true, false, false, false, false, false, false] rfl rfl (any_of HT_.out (by kernel_rfl)) (fun _ _ _ h => h) (Or.inr ⟨by rfl, rfl⟩) ?_ ?_
                rotate_left
                · simp only [Act.put, List.setIfInBounds_toArray, List.set_cons_zero, List.set_cons_succ, i64_w, i32_w]
                  rfl
                refine pure_ (i := 4) (N := some 25) (v := undef) (a' := ?_) #[true, true, true, true, true, false, false, false, false, false] rfl rfl (any_of HT_.out (by kernel_rfl)) (fun _ _ _ h => h) (Or.inr ⟨by rfl, rfl⟩) ?_ ?_
                rotate_left
                · simp only [Act.put, List.setIfInBounds_toArray, List.set_cons_zero, List.set_cons_succ, i64_w, i32_w]
                  rfl
                refine pure_ (i := 5) (N := some 26) (v := undef) (a' := ?_) #[true, true, true, true, true, true, false, false, false, false] rfl rfl (any_of HT_.out (by kernel_rfl)) (fun _ _ _ h => h) (Or.inr ⟨by rfl, rfl⟩) ?_ ?_
                rotate_left
                · simp only [Act.put, List.setIfInBounds_toArray, List.set_cons_zero, List.set_cons_succ, i64_w, i32_w]
                  rfl
                refine pure_ (i := 6) (N := some 27) (v := undef) (a' := ?_) #[true, true, true, true, true, true, true, false, false, false] rfl rfl (any_of HT_.out (by kernel_rfl)) (fun _ _ _ h => h) (Or.inr ⟨by rfl, rfl⟩) ?_ ?_
                rotate_left
                · simp only [Act.put, List.setIfInBounds_toArray, List.set_cons_zero, List.set_cons_succ, i64_w, i32_w]
                  rfl
                refine pure_ (i := 7) (N := some 28) (v := undef) (a' := ?_) #[true, true, true, true, true, true, true, true, false, false] rfl rfl (any_of HT_.out (by kernel_rfl)) (fun _ _ _ h => h) (Or.inr ⟨by rfl, rfl⟩) ?_ ?_
                rotate_left
                · simp only [Act.put, List.setIfInBounds_toArray, List.set_cons_zero, List.set_cons_succ, i64_w, i32_w]
                  rfl
                refine pure_ (i := 8) (N := some 29) (v := undef) (a' := ?_) #[true, true, true, true, true, true, true, true, true, false] rfl rfl (any_of HT_.out (by kernel_rfl)) (fun _ _ _ h => h) (Or.inr ⟨by rfl, rfl⟩) ?_ ?_
                rotate_left
                · simp only [Act.put, List.setIfInBounds_toArray, List.set_cons_zero, List.set_cons_succ, i64_w, i32_w]
                  rfl
                refine pure_ (i := 9) (N := some 30) (v := ?_) (a' := ?_) #[true, true, true, true, true, true, true, true, true, true] rfl rfl (any_of HT_.out (by kernel_rfl)) (fun _ _ _ h => h) (Or.inl ⟨by rfl, ?_⟩) ?_ ?_
                rotate_left
                · intro w'
                  go_simp
                  with_reducible rfl
                rotate_left
                · simp only [Act.put, List.setIfInBounds_toArray, List.set_cons_zero, List.set_cons_succ, i64_w, i32_w]
                  rfl
                refine done_ (done_of HT_.out (by kernel_rfl)) ?_
                have p158 : 0 ≤ (x7_1 : Int) := of_decide_eq_true (by first | (with_reducible assumption) | assumption)
                have q158 : x7_1 < (l0.length : Int) := of_decide_eq_true (by first | (with_reducible assumption) | assumption)
                obtain ⟨ad158, e158, hx158_0, hx158_1, hx158_2⟩ := at_T25 (Kd.R_reads' HO_0.out).2.2 x7_1 p158 q158
                obtain rfl : ad157 = ad158 := (by injection e158)
                replace p158 := eq_true p158
                replace q158 := eq_true q158
                try go_wp2_with (first | ((with_reducible refine gate_builtin (b := .append) (xs := #[.tmp 35, .tmp 40]) rfl ?_); at_builtin; refine Kd.R_append k25 (w0 := w0) w0.heap.size rfl (.tmp 35) (.tmp 40) 34 25 (.agg #[(.string ⟨#[]⟩), (.string ⟨#[]⟩), (.string ⟨#[]⟩)]) 48 rfl Try.underlying34 info25 rfl (by decide) (by omega) u5 x5_1 (⟨(rd_T25 l0 x7_1).f0, (rd_T25 l0 x7_1).f1, (rd_T25 l0 x7_1).f2⟩ : S25) [.string ((rd_T25 l0 x7_1).f0), .string ((rd_T25 l0 x7_1).f1), .string ((rd_T25 l0 x7_1).f2)] (fun k_ => (P0_ k_ ∨ w.heap.size ≤ k_) ∧ some k_ ≠ (.slice (some ad157) l0.length co11 : Value).ownBlock ∧ k_ ≠ gb153) (fun _ => False) rfl rfl ?aP (fun _ hk => hk.elim) ?aF ?aO ?aB ?aS ?aL ?_; (case aP => exact k25_mkM _ _ _ (⟨(rd_T25 l0 x7_1).f0, (rd_T25 l0 x7_1).f1, (rd_T25 l0 x7_1).f2⟩ : S25)); (case aB => exact (by repeat (first | (with_reducible first | exact HB.out | apply below_alloc | apply pw_below_drewN | apply below_drew1 | refine below_set ?_ GE153.out) | exact HB.out))); (case aF => exact (fun k_ hk => ⟨(.inr (Nat.le_trans (by first | exact HK.out.1 | exact (show Kept w _ (fun k_ => P0_ k_) from by repeat (first | (with_reducible first | exact HK.out | apply Kept.alloc | apply Kept.drewN | apply Kept.drew | refine Kept.setCell ?_ (.inr GW153.out) _) | exact HK.out)).1) hk)), Kd.fresh' (Kd.R_lt (by (with_reducible repeat (first | apply Kd.R_alloc | apply Kd.R_drewN | apply Kd.R_drew)); exact HO_0.out)) k_ hk, Kd.freshB (g := gb153) (o := .cells #[.string a1_0, .string a1_1, .string a1_2] 25 (0, 0)) (by (with_reducible repeat (first | refine blk_drewN ?_ _ | refine blk_drew ?_ | refine blk_alloc ?_ _)); exact BK153.out) k_ hk⟩)); (case aO => exact (by (with_reducible repeat (first | apply Kd.R_alloc | apply Kd.R_drewN | apply Kd.R_drew)); exact HO_5.out)); (case aS => exact (below_size (by repeat (first | (with_reducible first | exact HB.out | apply below_alloc | apply pw_below_drewN | apply below_drew1 | refine below_set ?_ GE153.out) | exact HB.out)))); (case aL => have := LMc10.out; omega); intro v160 w14 ho hb hg hat; rw [← Ny159.out] at ho; have n0_ := Aside0.mk (Kd.R_after (ok := (fun k_ => (P0_ k_ ∨ w.heap.size ≤ k_) ∧ k_ ≠ gb153)) (by (with_reducible repeat (first | apply Kd.R_alloc | apply Kd.R_drewN | apply Kd.R_drew)); exact Kd.R_mono HO_0.out (fun _ hk => ⟨⟨hk.1, hk.2.2⟩, hk.2.1⟩)) hg hat); have n1_ := Aside0.mk (blk_grown (g := gb153) (o := .cells #[.string a1_0, .string a1_1, .string a1_2] 25 (0, 0)) (by (with_reducible repeat (first | refine blk_drewN ?_ _ | refine blk_drew ?_ | refine blk_alloc ?_ _)); exact BK153.out) hg (Kd.R_away HO_5.out (fun _ hk => hk.2.2))); have n2_ := Aside0.mk (hb); have n3_ := Aside0.mk (Kept.of_grown (S := (fun k_ => P0_ k_)) hg (by repeat (first | (with_reducible first | exact HK.out | apply Kept.alloc | apply Kept.drewN | apply Kept.drew | refine Kept.setCell ?_ (.inr GW153.out) _) | exact HK.out)) (fun k_ e_ => (HO_5.out.1 k_ e_).1)); have n4_ := Aside0.mk (ho); clear HO_0; clear BK153; clear HB; clear HK; clear HO_5; have HO_0 := n0_; have BK153 := n1_; have HB := n2_; have HK := n3_; have HO161 := n4_; clear n0_ n1_ n2_ n3_ n4_; clear ho hb hg hat))
                go_roundg k1
                case measure => have := HK1.out; omega
                case rel => exact ⟨(y159), (true), (wrap64 (x7_1 + 1)), (by first | rfl | (simp; done) | (simp [*]; done)), (by first | rfl | (simp; done) | (simp [*]; done)), H', ⟨by have := HK1.out; omega⟩, ⟨by (with_reducible repeat (first | apply Kd.R_alloc | apply Kd.R_drewN | apply Kd.R_drew)); exact Kd.R_mono HO_0.out (fun _ hk => ⟨hk.1.1, ⟨hk.2, hk.1.2⟩⟩)⟩, ⟨by (with_reducible repeat (first | apply Kd.R_alloc | apply Kd.R_drewN | apply Kd.R_drew)); exact HO161.out⟩, ⟨by (with_reducible repeat (first | refine blk_drewN ?_ _ | refine blk_drew ?_ | refine blk_alloc ?_ _)); exact BK153.out⟩, ⟨by repeat (first | (with_reducible first | exact HK.out | apply Kept.alloc | apply Kept.drewN | apply Kept.drew | refine Kept.setCell ?_ (.inr GW153.out) _) | exact HK.out)⟩, ⟨by repeat (first | (with_reducible first | exact HB.out | apply below_alloc | apply pw_below_drewN | apply below_drew1 | refine below_set ?_ GE153.out) | exact HB.out)⟩⟩
              · rw [if_neg c10] at H
                exact absurd H (by simp)
            · replace c9 := Bool.eq_false_iff.mpr c9
              subst c9
              have H1 : ((porterref05_Less.f a1_0 a1_1 a1_2 ((rd_T25 l0 x7_1).f0) ((rd_T25 l0 x7_1).f1) ((rd_T25 l0 x7_1).f2)).bind fun t163 => (if t163 = true then (if x5_1.length < 2932031007402 then ((some (x5_1 ++ [(⟨a1_0, a1_1, a1_2⟩ : S25)] : List (S25))).bind fun y164 => (if y164.length < 2932031007402 then (porterref05_With.l0 k1 l0 (y164 ++ [(⟨(rd_T25 l0 x7_1).f0, (rd_T25 l0 x7_1).f1, (rd_T25 l0 x7_1).f2⟩ : S25)]) true (wrap64 (x7_1 + 1)) a1_0 a1_1 a1_2) else (none))) else (none)) else (if x5_1.length < 2932031007402 then (porterref05_With.l0 k1 l0 (x5_1 ++ [(⟨(rd_T25 l0 x7_1).f0, (rd_T25 l0 x7_1).f1, (rd_T25 l0 x7_1).f2⟩ : S25)]) false (wrap64 (x7_1 + 1)) a1_0 a1_1 a1_2) else (none)))) = some r := by rw [if_neg (show ¬ (false = true) by decide)] at H; exact H
              clear H
              have H := H1
              clear H1
              replace H := Option.bind_eq_some_iff.mp H
              obtain ⟨t163, A150, H⟩ := H
              replace H : (if t163 = true then (if x5_1.length < 2932031007402 then ((some (x5_1 ++ [(⟨a1_0, a1_1, a1_2⟩ : S25)] : List (S25))).bind fun y164 => (if y164.length < 2932031007402 then (porterref05_With.l0 k1 l0 (y164 ++ [(⟨(rd_T25 l0 x7_1).f0, (rd_T25 l0 x7_1).f1, (rd_T25 l0 x7_1).f2⟩ : S25)]) true (wrap64 (x7_1 + 1)) a1_0 a1_1 a1_2) else (none))) else (none)) else (if x5_1.length < 2932031007402 then (porterref05_With.l0 k1 l0 (x5_1 ++ [(⟨(rd_T25 l0 x7_1).f0, (rd_T25 l0 x7_1).f1, (rd_T25 l0 x7_1).f2⟩ : S25)]) false (wrap64 (x7_1 + 1)) a1_0 a1_1 a1_2) else (none))) = some r := H
              have A15 := Aside0.mk A150
              clear A150
              by_cases c16 : t163 = true
              · subst c16
                have H1 : (if x5_1.length < 2932031007402 then ((some (x5_1 ++ [(⟨a1_0, a1_1, a1_2⟩ : S25)] : List (S25))).bind fun y164 => (if y164.length < 2932031007402 then (porterref05_With.l0 k1 l0 (y164 ++ [(⟨(rd_T25 l0 x7_1).f0, (rd_T25 l0 x7_1).f1, (rd_T25 l0 x7_1).f2⟩ : S25)]) true (wrap64 (x7_1 + 1)) a1_0 a1_1 a1_2) else (none))) else (none)) = some r := by rw [if_pos rfl] at H; exact H
                clear H
                have H := H1
                clear H1
                by_cases c17 : x5_1.length < 2932031007402
                · rw [if_pos c17] at H
                  have LMc17 := Aside0.mk c17
                  clear c17
                  obtain ⟨y164, hy164⟩ : ∃ y_ : List (S25), y_ = (x5_1 ++ [(⟨a1_0, a1_1, a1_2⟩ : S25)]) := ⟨_, rfl⟩
                  replace H : (if y164.length < 2932031007402 then (porterref05_With.l0 k1 l0 (y164 ++ [(⟨(rd_T25 l0 x7_1).f0, (rd_T25 l0 x7_1).f1, (rd_T25 l0 x7_1).f2⟩ : S25)]) true (wrap64 (x7_1 + 1)) a1_0 a1_1 a1_2) else (none)) = some r := by first | (rw [hy164]; with_reducible exact H) | (have H2_ := (Option.bind_some _ _).symm.trans H; rw [hy164]; with_reducible exact H2_) | (have H2_ := (Option.bind_some _ _).symm.trans H; with_reducible exact H2_) | with_reducible exact H | (rw [hy164]; exact H) | exact H
                  have Ny164 := Aside0.mk hy164
                  clear hy164
                  by_cases c18 : y164.length < 2932031007402
                  · rw [if_pos c18] at H
                    have LMc18 := Aside0.mk c18
                    clear c18
                    obtain ⟨y168, hy168⟩ : ∃ y_ : List (S25), y_ = (y164 ++ [(⟨(rd_T25 l0 x7_1).f0, (rd_T25 l0 x7_1).f1, (rd_T25 l0 x7_1).f2⟩ : S25)]) := ⟨_, rfl⟩
                    replace H : (porterref05_With.l0 k1 l0 y168 true (wrap64 (x7_1 + 1)) a1_0 a1_1 a1_2) = some r := by first | (rw [hy168]; with_reducible exact H) | (have H2_ := (Option.bind_some _ _).symm.trans H; rw [hy168]; with_reducible exact H2_) | (have H2_ := (Option.bind_some _ _).symm.trans H; with_reducible exact H2_) | with_reducible exact H | (rw [hy168]; exact H) | exact H
                    have Ny168 := Aside0.mk hy168
                    clear hy168
                    have H' := Aside0.mk H
                    clear H
                    obtain ⟨Ao19, co19, eo19⟩ := Kd.R_slice HO_0.out
                    subst eo19
                    try go_wp2
                    have n0_ := Aside0.mk (Kd.R_drew HO_0.out)
                    have n1_ := Aside0.mk (Kd.R_drew HO_5.out)
                    have n2_ := Aside0.mk (blk_drew BK153.out)
                    have n3_ := Aside0.mk (Kept.drew HK.out)
                    have n4_ := Aside0.mk (below_drew1 HB.out)
                    clear HO_0
                    clear HO_5
                    clear BK153
                    clear HK
                    clear HB
                    have HO_0 := n0_
                    have HO_5 := n1_
                    have BK153 := n2_
                    have HK := n3_
                    have HB := n4_
                    clear n0_ n1_ n2_ n3_ n4_
                    have p157 : 0 ≤ (x7_1 : Int) := of_decide_eq_true (by first | (with_reducible assumption) | assumption)
                    have q157 : x7_1 < (l0.length : Int) := of_decide_eq_true (by first | (with_reducible assumption) | assumption)
                    obtain ⟨ad157, e157, hx157_0, hx157_1, hx157_2⟩ := at_T25 (Kd.R_reads' HO_0.out).2.2 x7_1 p157 q157
                    cases e157
                    replace p157 := eq_true p157
                    replace q157 := eq_true q157
                    refine start_ (n := 6) (S := fun w' => w'.cell? ⟨gb153, 0, none⟩ = some (.string a1_0) ∧ w'.cell? ⟨gb153, 1, none⟩ = some (.string a1_1) ∧ w'.cell? ⟨gb153, 2, none⟩ = some (.string a1_2) ∧ w'.cell? (ad157.add ((x7_1).toNat * 3)) = some (.string ((rd_T25 l0 x7_1).f0)) ∧ w'.cell? ⟨(ad157.add ((x7_1).toNat * 3)).block, (ad157.add ((x7_1).toNat * 3)).off + 1, none⟩ = some (.string ((rd_T25 l0 x7_1).f1)) ∧ w'.cell? ⟨(ad157.add ((x7_1).toNat * 3)).block, (ad157.add ((x7_1).toNat * 3)).off + 2, none⟩ = some (.string ((rd_T25 l0 x7_1).f2))) (ds := []) #[false, false, false, false, false, false] (by kernel_rfl) rfl rfl ⟨(blk_cell BK153.out 0).trans rfl, (blk_cell BK153.out 1).trans rfl, (blk_cell BK153.out 2).trans rfl, hx157_0, hx157_1, hx157_2⟩ (fun hHeld => ?_)
                    generalize wr.drew = w20 at HO_0 HO_5 BK153 HK HB hx157_0 hx157_1 hx157_2 hHeld ⊢
                    refine pure_ (i := 0) (N := some 14) (v := ?_) (a' := ?_) #[true, false, false, false, false, false] rfl rfl (by kernel_rfl) (fun _ _ _ h => h) (Or.inl ⟨by rfl, ?_⟩) ?_ ?_
                    rotate_left
                    · intro w'
                      go_simp
                      with_reducible rfl
                    rotate_left
                    · simp only [Act.put, List.setIfInBounds_toArray, List.set_cons_zero, List.set_cons_succ, i64_w, i32_w]
                      rfl
                    refine pure_ (i := 1) (N := some 15) (v := ?_) (a' := ?_) #[true, true, false, false, false, false] rfl rfl (by kernel_rfl) (fun _ _ _ h => h) (Or.inl ⟨by rfl, ?_⟩) ?_ ?_
                    rotate_left
                    · intro w'
                      go_simp
                      with_reducible rfl
                    rotate_left
                    · simp only [Act.put, List.setIfInBounds_toArray, List.set_cons_zero, List.set_cons_succ, i64_w, i32_w]
                      rfl
                    refine pure_ (i := 2) (N := some 16) (v := ?_) (a' := ?_) #[true, true, true, false, false, false] rfl rfl (by kernel_rfl) (fun _ _ _ h => h) (Or.inl ⟨by rfl, ?_⟩) ?_ ?_
                    rotate_left
                    · intro w'
                      go_simp
                      with_reducible rfl
                    rotate_left
                    · simp only [Act.put, List.setIfInBounds_toArray, List.set_cons_zero, List.set_cons_succ, i64_w, i32_w]
                      rfl
                    refine take_ (i := 3) (N := some 17) (v := ?_) (a' := ?_) #[true, true, true, true, false, false] rfl rfl (by kernel_rfl) (fun _ _ _ h => h) (Or.inl ⟨by rfl, ?_⟩) hHeld ?_ ?_
                    rotate_left
                    · rintro w' ⟨s0, s1, s2, s3, s4, s5⟩
                      go_simp
                      with_reducible rfl
                    rotate_left
                    · simp only [Act.put, List.setIfInBounds_toArray, List.set_cons_zero, List.set_cons_succ, i64_w, i32_w]
                      rfl
                    refine take_ (i := 4) (N := some 18) (v := ?_) (a' := ?_) #[true, true, true, true, true, false] rfl rfl (by kernel_rfl) (fun _ _ _ h => h) (Or.inl ⟨by rfl, ?_⟩) hHeld ?_ ?_
                    rotate_left
                    · rintro w' ⟨s0, s1, s2, s3, s4, s5⟩
                      go_simp
                      with_reducible rfl
                    rotate_left
                    · simp only [Act.put, List.setIfInBounds_toArray, List.set_cons_zero, List.set_cons_succ, i64_w, i32_w]
                      rfl
                    refine pure_ (i := 5) (N := some 19) (v := ?_) (a' := ?_) #[true, true, true, true, true, true] rfl rfl (by kernel_rfl) (fun _ _ _ h => h) (Or.inl ⟨by rfl, ?_⟩) ?_ ?_
                    rotate_left
                    · intro w'
                      go_simp
                      with_reducible rfl
                    rotate_left
                    · simp only [Act.put, List.setIfInBounds_toArray, List.set_cons_zero, List.set_cons_succ, i64_w, i32_w]
                      rfl
                    refine done_ (by kernel_rfl) ?_
                    try go_wp2
                    have n0_ := Aside0.mk (Kd.R_drew HO_0.out)
                    have n1_ := Aside0.mk (Kd.R_drew HO_5.out)
                    have n2_ := Aside0.mk (blk_drew BK153.out)
                    have n3_ := Aside0.mk (Kept.drew HK.out)
                    have n4_ := Aside0.mk (below_drew1 HB.out)
                    clear HO_0
                    clear HO_5
                    clear BK153
                    clear HK
                    clear HB
                    have HO_0 := n0_
                    have HO_5 := n1_
                    have BK153 := n2_
                    have HK := n3_
                    have HB := n4_
                    clear n0_ n1_ n2_ n3_ n4_
                    have p162 : 0 ≤ (x7_1 : Int) := of_decide_eq_true (by first | (with_reducible assumption) | assumption)
                    have q162 : x7_1 < (l0.length : Int) := of_decide_eq_true (by first | (with_reducible assumption) | assumption)
                    obtain ⟨ad162, e162, hx162_0, hx162_1, hx162_2⟩ := at_T25 (Kd.R_reads' HO_0.out).2.2 x7_1 p162 q162
                    obtain rfl : ad157 = ad162 := (by injection e162)
                    replace p162 := eq_true p162
                    replace q162 := eq_true q162
                    refine start_ (n := 10) (S := fun w' => w'.cell? ⟨gb153, 0, none⟩ = some (.string a1_0) ∧ w'.cell? ⟨gb153, 1, none⟩ = some (.string a1_1) ∧ w'.cell? ⟨gb153, 2, none⟩ = some (.string a1_2) ∧ w'.cell? (ad157.add ((x7_1).toNat * 3)) = some (.string ((rd_T25 l0 x7_1).f0)) ∧ w'.cell? ⟨(ad157.add ((x7_1).toNat * 3)).block, (ad157.add ((x7_1).toNat * 3)).off + 1, none⟩ = some (.string ((rd_T25 l0 x7_1).f1)) ∧ w'.cell? ⟨(ad157.add ((x7_1).toNat * 3)).block, (ad157.add ((x7_1).toNat * 3)).off + 2, none⟩ = some (.string ((rd_T25 l0 x7_1).f2))) (ds := []) #[false, false, false, false, false, false, false, false, false, false] (by kernel_rfl) rfl rfl ⟨(blk_cell BK153.out 0).trans rfl, (blk_cell BK153.out 1).trans rfl, (blk_cell BK153.out 2).trans rfl, hx162_0, hx162_1, hx162_2⟩ (fun hHeld => ?_); refine with_tabW porterref05_With.tab8 porterref05_With.bits8 (fun HT_ HW_ => ?_)
                    generalize w20.drew = w21 at HO_0 HO_5 BK153 HK HB hx162_0 hx162_1 hx162_2 hHeld ⊢
                    refine pure_ (i := 0) (N := some 21) (v := ?_) (a' := ?_) #[true, false, false, false, false, false, false, false, false, false] rfl rfl (any_of HT_.out (by kernel_rfl)) (fun _ _ _ h => h) (Or.inl ⟨by rfl, ?_⟩) ?_ ?_
                    rotate_left
                    · intro w'
                      go_simp
                      with_reducible rfl
                    rotate_left
                    · simp only [Act.put, List.setIfInBounds_toArray, List.set_cons_zero, List.set_cons_succ, i64_w, i32_w]
                      rfl
                    refine pure_ (i := 1) (N := some 22) (v := ?_) (a' := ?_) #[true, true, false, false, false, false, false, false, false, false] rfl rfl (any_of HT_.out (by kernel_rfl)) (fun _ _ _ h => h) (Or.inl ⟨by rfl, ?_⟩) ?_ ?_
                    rotate_left
                    · intro w'
                      go_simp
                      with_reducible rfl
                    rotate_left
                    · simp only [Act.put, List.setIfInBounds_toArray, List.set_cons_zero, List.set_cons_succ, i64_w, i32_w]
                      rfl
                    refine pure_ (i := 2) (N := some 23) (v := ?_) (a' := ?_) #[true, true, true, false, false, false, false, false, false, false] rfl rfl (any_of HT_.out (by kernel_rfl)) (fun _ _ _ h => h) (Or.inl ⟨by rfl, ?_⟩) ?_ ?_
                    rotate_left
                    · intro w'
                      go_simp
                      with_reducible rfl
                    rotate_left
                    · simp only [Act.put, List.setIfInBounds_toArray, List.set_cons_zero, List.set_cons_succ, i64_w, i32_w]
                      rfl
                    refine pure_ (i := 4) (N := some 25) (v := ?_) (a' := ?_) #[true, true, true, false, true, false, false, false, false, false] rfl rfl (any_of HT_.out (by kernel_rfl)) (fun _ _ _ h => h) (Or.inl ⟨by rfl, ?_⟩) ?_ ?_
                    rotate_left
                    · intro w'
                      go_simp
                      with_reducible rfl
                    rotate_left
                    · simp only [Act.put, List.setIfInBounds_toArray, List.set_cons_zero, List.set_cons_succ, i64_w, i32_w]
                      rfl
                    refine pure_ (i := 5) (N := some 26) (v := ?_) (a' := ?_) #[true, true, true, false, true, true, false, false, false, false] rfl rfl (any_of HT_.out (by kernel_rfl)) (fun _ _ _ h => h) (Or.inl ⟨by rfl, ?_⟩) ?_ ?_
                    rotate_left
                    · intro w'
                      go_simp
                      with_reducible rfl
                    rotate_left
                    · simp only [Act.put, List.setIfInBounds_toArray, List.set_cons_zero, List.set_cons_succ, i64_w, i32_w]
                      rfl
                    refine pure_ (i := 6) (N := some 27) (v := ?_) (a' := ?_) #[true, true, true, false, true, true, true, false, false, false] rfl rfl (any_of HT_.out (by kernel_rfl)) (fun _ _ _ h => h) (Or.inl ⟨by rfl, ?_⟩) ?_ ?_
                    rotate_left
                    · intro w'
                      go_simp
                      with_reducible rfl
                    rotate_left
                    · simp only [Act.put, List.setIfInBounds_toArray, List.set_cons_zero, List.set_cons_succ, i64_w, i32_w]
                      rfl
                    refine take_ (i := 3) (N := some 24) (v := ?_) (a' := ?_) #[true, true, true, true, true, true, true, false, false, false] rfl rfl (take_ofW HT_.out HW_.out (by kernel_rfl)) (fun _ _ _ h => h) (Or.inl ⟨by rfl, ?_⟩) hHeld ?_ ?_
                    rotate_left
                    · rintro w' ⟨s0, s1, s2, s3, s4, s5⟩
                      go_simp
                      with_reducible rfl
                    rotate_left
                    · simp only [Act.put, List.setIfInBounds_toArray, List.set_cons_zero, List.set_cons_succ, i64_w, i32_w]
                      rfl
                    refine take_ (i := 7) (N := some 28) (v := ?_) (a' := ?_) #[true, true, true, true, true, true, true, true, false, false] rfl rfl (take_ofW HT_.out HW_.out (by kernel_rfl)) (fun _ _ _ h => h) (Or.inl ⟨by rfl, ?_⟩) hHeld ?_ ?_
                    rotate_left
                    · rintro w' ⟨s0, s1, s2, s3, s4, s5⟩
                      go_simp
                      with_reducible rfl
                    rotate_left
                    · simp only [Act.put, List.setIfInBounds_toArray, List.set_cons_zero, List.set_cons_succ, i64_w, i32_w]
                      rfl
                    refine one_ (i := 8) (N := some 29) #[true, true, true, true, true, true, true, true, true, false] rfl rfl (one_of HT_.out (by kernel_rfl)) (by decide) (fun K hK => ?_)
                    refine goes_ Try.func45 (by kernel_rfl) rfl #[.agg #[.string a1_0, .string a1_1, .string a1_2], .agg #[.string ((rd_T25 l0 x7_1).f0), .string ((rd_T25 l0 x7_1).f1), .string ((rd_T25 l0 x7_1).f2)]] (by rfl) rfl rfl (by (try simp only [List.map_toArray, List.map_cons, List.map_nil]); first | done | rfl | (simp only [List.length_drop, List.length_take]; rfl)) ?_
                    with_reducible refine (porterref05_Less.calls a1_0 a1_1 a1_2 ((rd_T25 l0 x7_1).f0) ((rd_T25 l0 x7_1).f1) ((rd_T25 l0 x7_1).f2) true _ A15.out).mono ?_
                    rintro e w22 ⟨rfl, hb⟩
                    have HS3_ := (hb.cell (World.block_lt_of_cell? _ _ (hHeld.2.2.2.1))).trans (hHeld.2.2.2.1)
                    have HS4_ := (hb.cell (World.block_lt_of_cell? _ _ (hHeld.2.2.2.2.1))).trans (hHeld.2.2.2.2.1)
                    have HS5_ := (hb.cell (World.block_lt_of_cell? _ _ (hHeld.2.2.2.2.2))).trans (hHeld.2.2.2.2.2)
                    refine ⟨_, rfl, ?_⟩
                    have n0_ := Aside0.mk (Kd.R_below (by (with_reducible repeat (first | apply Kd.R_alloc | apply Kd.R_drewN | apply Kd.R_drew)); exact HO_0.out) hb)
                    have n1_ := Aside0.mk (Kd.R_below (by (with_reducible repeat (first | apply Kd.R_alloc | apply Kd.R_drewN | apply Kd.R_drew)); exact HO_5.out) hb)
                    have n2_ := Aside0.mk (blk_below (g := gb153) (o := .cells #[.string a1_0, .string a1_1, .string a1_2] 25 (0, 0)) (by (with_reducible repeat (first | refine blk_drewN ?_ _ | refine blk_drew ?_ | refine blk_alloc ?_ _)); exact BK153.out) hb)
                    have n3_ := Aside0.mk (Kept.below (S := (fun k_ => P0_ k_)) (by repeat (first | (with_reducible first | exact HK.out | apply Kept.alloc | apply Kept.drewN | apply Kept.drew | refine Kept.setCell ?_ (.inr GW153.out) _) | exact HK.out)) hb)
                    have n4_ := Aside0.mk (below_step (by repeat (first | (with_reducible first | exact HB.out | apply below_alloc | apply pw_below_drewN | apply below_drew1 | refine below_set ?_ GE153.out) | exact HB.out)) hb)
                    clear HO_0
                    clear HO_5
                    clear BK153
                    clear HK
                    clear HB
                    have HO_0 := n0_
                    have HO_5 := n1_
                    have BK153 := n2_
                    have HK := n3_
                    have HB := n4_
                    clear n0_ n1_ n2_ n3_ n4_
                    (try clear hb)
                    (try clear hb2)
                    (try clear hk)
                    (try clear hi)
                    refine hK.out _ _ ⟨(blk_cell BK153.out 0).trans rfl, (blk_cell BK153.out 1).trans rfl, (blk_cell BK153.out 2).trans rfl, HS3_, HS4_, HS5_⟩ (fun hHeld => ?_)
                    clear hK K
                    refine norm_ (a' := ?_) ?_ ?_
                    rotate_left
                    · show Act.put _ (some 29) _ = _
                      simp only [Act.put, List.setIfInBounds_toArray, List.set_cons_zero, List.set_cons_succ, i64_w, i32_w]
                      rfl
                    refine pure_ (i := 9) (N := some 30) (v := ?_) (a' := ?_) #[true, true, true, true, true, true, true, true, true, true] rfl rfl (any_of HT_.out (by kernel_rfl)) (fun _ _ _ h => h) (Or.inl ⟨by rfl, ?_⟩) ?_ ?_
                    rotate_left
                    · intro w'
                      go_simp
                      with_reducible rfl
                    rotate_left
                    · simp only [Act.put, List.setIfInBounds_toArray, List.set_cons_zero, List.set_cons_succ, i64_w, i32_w]
                      rfl
                    refine done_ (done_of HT_.out (by kernel_rfl)) ?_
                    have hcz23_0 : w22.cell? ⟨gb153, 0, none⟩ = some (.string a1_0) := (blk_cell BK153.out 0).trans rfl
                    have hcz23_1 : w22.cell? ⟨gb153, 1, none⟩ = some (.string a1_1) := (blk_cell BK153.out 1).trans rfl
                    have hcz23_2 : w22.cell? ⟨gb153, 2, none⟩ = some (.string a1_2) := (blk_cell BK153.out 2).trans rfl
                    have hfz23_0 := blk_frozen BK153.out 0
                    have hfz23_1 := blk_frozen BK153.out 1
                    have hfz23_2 := blk_frozen BK153.out 2
                    try go_wp2_with (first | ((with_reducible refine gate_builtin (b := .append) (xs := #[.tmp 31, .tmp 33]) rfl ?_); at_builtin; refine Kd.R_append k25 (w0 := w0) w0.heap.size rfl (.tmp 31) (.tmp 33) 34 25 (.agg #[(.string ⟨#[]⟩), (.string ⟨#[]⟩), (.string ⟨#[]⟩)]) 48 rfl Try.underlying34 info25 rfl (by decide) (by omega) u5 x5_1 (⟨a1_0, a1_1, a1_2⟩ : S25) [.string a1_0, .string a1_1, .string a1_2] (fun k_ => (P0_ k_ ∨ w.heap.size ≤ k_) ∧ some k_ ≠ (.slice (some ad157) l0.length co19 : Value).ownBlock ∧ k_ ≠ gb153) (fun _ => False) rfl rfl ?aP (fun _ hk => hk.elim) ?aF ?aO ?aB ?aS ?aL ?_; (case aP => exact k25_mkM _ _ _ (⟨a1_0, a1_1, a1_2⟩ : S25)); (case aB => exact (by repeat (first | (with_reducible first | exact HB.out | apply below_alloc | apply pw_below_drewN | apply below_drew1 | refine below_set ?_ GE153.out) | exact HB.out))); (case aF => exact (fun k_ hk => ⟨(.inr (Nat.le_trans (by first | exact HK.out.1 | exact (show Kept w _ (fun k_ => P0_ k_) from by repeat (first | (with_reducible first | exact HK.out | apply Kept.alloc | apply Kept.drewN | apply Kept.drew | refine Kept.setCell ?_ (.inr GW153.out) _) | exact HK.out)).1) hk)), Kd.fresh' (Kd.R_lt (by (with_reducible repeat (first | apply Kd.R_alloc | apply Kd.R_drewN | apply Kd.R_drew)); exact HO_0.out)) k_ hk, Kd.freshB (g := gb153) (o := .cells #[.string a1_0, .string a1_1, .string a1_2] 25 (0, 0)) (by (with_reducible repeat (first | refine blk_drewN ?_ _ | refine blk_drew ?_ | refine blk_alloc ?_ _)); exact BK153.out) k_ hk⟩)); (case aO => exact (by (with_reducible repeat (first | apply Kd.R_alloc | apply Kd.R_drewN | apply Kd.R_drew)); exact HO_5.out)); (case aS => exact (below_size (by repeat (first | (with_reducible first | exact HB.out | apply below_alloc | apply pw_below_drewN | apply below_drew1 | refine below_set ?_ GE153.out) | exact HB.out)))); (case aL => have := LMc17.out; omega); intro v165 w24 ho hb hg hat; rw [← Ny164.out] at ho; have n0_ := Aside0.mk (Kd.R_after (ok := (fun k_ => (P0_ k_ ∨ w.heap.size ≤ k_) ∧ k_ ≠ gb153)) (by (with_reducible repeat (first | apply Kd.R_alloc | apply Kd.R_drewN | apply Kd.R_drew)); exact Kd.R_mono HO_0.out (fun _ hk => ⟨⟨hk.1, hk.2.2⟩, hk.2.1⟩)) hg hat); have n1_ := Aside0.mk (blk_grown (g := gb153) (o := .cells #[.string a1_0, .string a1_1, .string a1_2] 25 (0, 0)) (by (with_reducible repeat (first | refine blk_drewN ?_ _ | refine blk_drew ?_ | refine blk_alloc ?_ _)); exact BK153.out) hg (Kd.R_away HO_5.out (fun _ hk => hk.2.2))); have n2_ := Aside0.mk (hb); have n3_ := Aside0.mk (Kept.of_grown (S := (fun k_ => P0_ k_)) hg (by repeat (first | (with_reducible first | exact HK.out | apply Kept.alloc | apply Kept.drewN | apply Kept.drew | refine Kept.setCell ?_ (.inr GW153.out) _) | exact HK.out)) (fun k_ e_ => (HO_5.out.1 k_ e_).1)); have n4_ := Aside0.mk (ho); clear HO_0; clear BK153; clear HB; clear HK; clear HO_5; have HO_0 := n0_; have BK153 := n1_; have HB := n2_; have HK := n3_; have HO166 := n4_; clear n0_ n1_ n2_ n3_ n4_; clear ho hb hg hat; have p167 : 0 ≤ (x7_1 : Int) := of_decide_eq_true (by first | (with_reducible assumption) | assumption); have q167 : x7_1 < (l0.length : Int) := of_decide_eq_true (by first | (with_reducible assumption) | assumption); obtain ⟨ad167, e167, hx167_0, hx167_1, hx167_2⟩ := at_T25 (Kd.R_reads' HO_0.out).2.2 x7_1 p167 q167; obtain rfl : ad157 = ad167 := (by injection e167); replace p167 := eq_true p167; replace q167 := eq_true q167) | ((with_reducible refine gate_builtin (b := .append) (xs := #[.tmp 35, .tmp 40]) rfl ?_); at_builtin; refine Kd.R_append k25 (w0 := w0) w0.heap.size rfl (.tmp 35) (.tmp 40) 34 25 (.agg #[(.string ⟨#[]⟩), (.string ⟨#[]⟩), (.string ⟨#[]⟩)]) 48 rfl Try.underlying34 info25 rfl (by decide) (by omega) v165 y164 (⟨(rd_T25 l0 x7_1).f0, (rd_T25 l0 x7_1).f1, (rd_T25 l0 x7_1).f2⟩ : S25) [.string ((rd_T25 l0 x7_1).f0), .string ((rd_T25 l0 x7_1).f1), .string ((rd_T25 l0 x7_1).f2)] (fun k_ => (P0_ k_ ∨ w.heap.size ≤ k_) ∧ some k_ ≠ (.slice (some ad157) l0.length co19 : Value).ownBlock ∧ k_ ≠ gb153) (fun _ => False) rfl rfl ?aP (fun _ hk => hk.elim) ?aF ?aO ?aB ?aS ?aL ?_; (case aP => exact k25_mkM _ _ _ (⟨(rd_T25 l0 x7_1).f0, (rd_T25 l0 x7_1).f1, (rd_T25 l0 x7_1).f2⟩ : S25)); (case aB => exact (by repeat (first | (with_reducible first | exact HB.out | apply below_alloc | apply pw_below_drewN | apply below_drew1 | refine below_set ?_ GE153.out) | exact HB.out))); (case aF => exact (fun k_ hk => ⟨(.inr (Nat.le_trans (by first | exact HK.out.1 | exact (show Kept w _ (fun k_ => P0_ k_) from by repeat (first | (with_reducible first | exact HK.out | apply Kept.alloc | apply Kept.drewN | apply Kept.drew | refine Kept.setCell ?_ (.inr GW153.out) _) | exact HK.out)).1) hk)), Kd.fresh' (Kd.R_lt (by (with_reducible repeat (first | apply Kd.R_alloc | apply Kd.R_drewN | apply Kd.R_drew)); exact HO_0.out)) k_ hk, Kd.freshB (g := gb153) (o := .cells #[.string a1_0, .string a1_1, .string a1_2] 25 (0, 0)) (by (with_reducible repeat (first | refine blk_drewN ?_ _ | refine blk_drew ?_ | refine blk_alloc ?_ _)); exact BK153.out) k_ hk⟩)); (case aO => exact (by (with_reducible repeat (first | apply Kd.R_alloc | apply Kd.R_drewN | apply Kd.R_drew)); exact HO166.out)); (case aS => exact (below_size (by repeat (first | (with_reducible first | exact HB.out | apply below_alloc | apply pw_below_drewN | apply below_drew1 | refine below_set ?_ GE153.out) | exact HB.out)))); (case aL => have := LMc18.out; omega); intro v169 w25 ho hb hg hat; rw [← Ny168.out] at ho; have n0_ := Aside0.mk (Kd.R_after (ok := (fun k_ => (P0_ k_ ∨ w.heap.size ≤ k_) ∧ k_ ≠ gb153)) (by (with_reducible repeat (first | apply Kd.R_alloc | apply Kd.R_drewN | apply Kd.R_drew)); exact HO_0.out) hg hat); have n1_ := Aside0.mk (blk_grown (g := gb153) (o := .cells #[.string a1_0, .string a1_1, .string a1_2] 25 (0, 0)) (by (with_reducible repeat (first | refine blk_drewN ?_ _ | refine blk_drew ?_ | refine blk_alloc ?_ _)); exact BK153.out) hg (Kd.R_away HO166.out (fun _ hk => hk.2.2))); have n2_ := Aside0.mk (hb); have n3_ := Aside0.mk (Kept.of_grown (S := (fun k_ => P0_ k_)) hg (by repeat (first | (with_reducible first | exact HK.out | apply Kept.alloc | apply Kept.drewN | apply Kept.drew | refine Kept.setCell ?_ (.inr GW153.out) _) | exact HK.out)) (fun k_ e_ => (HO166.out.1 k_ e_).1)); have n4_ := Aside0.mk (ho); clear HO_0; clear BK153; clear HB; clear HK; clear HO166; have HO_0 := n0_; have BK153 := n1_; have HB := n2_; have HK := n3_; have HO170 := n4_; clear n0_ n1_ n2_ n3_ n4_; clear ho hb hg hat))
                    go_roundg k1
                    case measure => have := HK1.out; omega
                    case rel => exact ⟨(y168), (true), (wrap64 (x7_1 + 1)), (by first | rfl | (simp; done) | (simp [*]; done)), (by first | rfl | (simp; done) | (simp [*]; done)), H', ⟨by have := HK1.out; omega⟩, ⟨by (with_reducible repeat (first | apply Kd.R_alloc | apply Kd.R_drewN | apply Kd.R_drew)); exact Kd.R_mono HO_0.out (fun _ hk => ⟨hk.1.1, ⟨hk.2, hk.1.2⟩⟩)⟩, ⟨by (with_reducible repeat (first | apply Kd.R_alloc | apply Kd.R_drewN | apply Kd.R_drew)); exact HO170.out⟩, ⟨by (with_reducible repeat (first | refine blk_drewN ?_ _ | refine blk_drew ?_ | refine blk_alloc ?_ _)); exact BK153.out⟩, ⟨by repeat (first | (with_reducible first | exact HK.out | apply Kept.alloc | apply Kept.drewN | apply Kept.drew | refine Kept.setCell ?_ (.inr GW153.out) _) | exact HK.out)⟩, ⟨by repeat (first | (with_reducible first | exact HB.out | apply below_alloc | apply pw_below_drewN | apply below_drew1 | refine below_set ?_ GE153.out) | exact HB.out)⟩⟩
                  · rw [if_neg c18] at H
                    exact absurd H (by simp)
                · rw [if_neg c17] at H
                  exact absurd H (by simp)
              · replace c16 := Bool.eq_false_iff.mpr c16
                subst c16
                have H1 : (if x5_1.length < 2932031007402 then (porterref05_With.l0 k1 l0 (x5_1 ++ [(⟨(rd_T25 l0 x7_1).f0, (rd_T25 l0 x7_1).f1, (rd_T25 l0 x7_1).f2⟩ : S25)]) false (wrap64 (x7_1 + 1)) a1_0 a1_1 a1_2) else (none)) = some r := by rw [if_neg (show ¬ (false = true) by decide)] at H; exact H
                clear H
                have H := H1
                clear H1
                by_cases c26 : x5_1.length < 2932031007402
                · rw [if_pos c26] at H
                  have LMc26 := Aside0.mk c26
                  clear c26
                  obtain ⟨y172, hy172⟩ : ∃ y_ : List (S25), y_ = (x5_1 ++ [(⟨(rd_T25 l0 x7_1).f0, (rd_T25 l0 x7_1).f1, (rd_T25 l0 x7_1).f2⟩ : S25)]) := ⟨_, rfl⟩
                  replace H : (porterref05_With.l0 k1 l0 y172 false (wrap64 (x7_1 + 1)) a1_0 a1_1 a1_2) = some r := by first | (rw [hy172]; with_reducible exact H) | (have H2_ := (Option.bind_some _ _).symm.trans H; rw [hy172]; with_reducible exact H2_) | (have H2_ := (Option.bind_some _ _).symm.trans H; with_reducible exact H2_) | with_reducible exact H | (rw [hy172]; exact H) | exact H
                  have Ny172 := Aside0.mk hy172
                  clear hy172
                  have H' := Aside0.mk H
                  clear H
                  obtain ⟨Ao27, co27, eo27⟩ := Kd.R_slice HO_0.out
                  subst eo27
                  try go_wp2
                  have n0_ := Aside0.mk (Kd.R_drew HO_0.out)
                  have n1_ := Aside0.mk (Kd.R_drew HO_5.out)
                  have n2_ := Aside0.mk (blk_drew BK153.out)
                  have n3_ := Aside0.mk (Kept.drew HK.out)
                  have n4_ := Aside0.mk (below_drew1 HB.out)
                  clear HO_0
                  clear HO_5
                  clear BK153
                  clear HK
                  clear HB
                  have HO_0 := n0_
                  have HO_5 := n1_
                  have BK153 := n2_
                  have HK := n3_
                  have HB := n4_
                  clear n0_ n1_ n2_ n3_ n4_
                  have p157 : 0 ≤ (x7_1 : Int) := of_decide_eq_true (by first | (with_reducible assumption) | assumption)
                  have q157 : x7_1 < (l0.length : Int) := of_decide_eq_true (by first | (with_reducible assumption) | assumption)
                  obtain ⟨ad157, e157, hx157_0, hx157_1, hx157_2⟩ := at_T25 (Kd.R_reads' HO_0.out).2.2 x7_1 p157 q157
                  cases e157
                  replace p157 := eq_true p157
                  replace q157 := eq_true q157
                  refine start_ (n := 6) (S := fun w' => w'.cell? ⟨gb153, 0, none⟩ = some (.string a1_0) ∧ w'.cell? ⟨gb153, 1, none⟩ = some (.string a1_1) ∧ w'.cell? ⟨gb153, 2, none⟩ = some (.string a1_2) ∧ w'.cell? (ad157.add ((x7_1).toNat * 3)) = some (.string ((rd_T25 l0 x7_1).f0)) ∧ w'.cell? ⟨(ad157.add ((x7_1).toNat * 3)).block, (ad157.add ((x7_1).toNat * 3)).off + 1, none⟩ = some (.string ((rd_T25 l0 x7_1).f1)) ∧ w'.cell? ⟨(ad157.add ((x7_1).toNat * 3)).block, (ad157.add ((x7_1).toNat * 3)).off + 2, none⟩ = some (.string ((rd_T25 l0 x7_1).f2))) (ds := []) #[false, false, false, false, false, false] (by kernel_rfl) rfl rfl ⟨(blk_cell BK153.out 0).trans rfl, (blk_cell BK153.out 1).trans rfl, (blk_cell BK153.out 2).trans rfl, hx157_0, hx157_1, hx157_2⟩ (fun hHeld => ?_)
                  generalize wr.drew = w28 at HO_0 HO_5 BK153 HK HB hx157_0 hx157_1 hx157_2 hHeld ⊢
                  refine pure_ (i := 0) (N := some 14) (v := ?_) (a' := ?_) #[true, false, false, false, false, false] rfl rfl (by kernel_rfl) (fun _ _ _ h => h) (Or.inl ⟨by rfl, ?_⟩) ?_ ?_
                  rotate_left
                  · intro w'
                    go_simp
                    with_reducible rfl
                  rotate_left
                  · simp only [Act.put, List.setIfInBounds_toArray, List.set_cons_zero, List.set_cons_succ, i64_w, i32_w]
                    rfl
                  refine pure_ (i := 1) (N := some 15) (v := ?_) (a' := ?_) #[true, true, false, false, false, false] rfl rfl (by kernel_rfl) (fun _ _ _ h => h) (Or.inl ⟨by rfl, ?_⟩) ?_ ?_
                  rotate_left
                  · intro w'
                    go_simp
                    with_reducible rfl
                  rotate_left
                  · simp only [Act.put, List.setIfInBounds_toArray, List.set_cons_zero, List.set_cons_succ, i64_w, i32_w]
                    rfl
                  refine pure_ (i := 2) (N := some 16) (v := ?_) (a' := ?_) #[true, true, true, false, false, false] rfl rfl (by kernel_rfl) (fun _ _ _ h => h) (Or.inl ⟨by rfl, ?_⟩) ?_ ?_
                  rotate_left
                  · intro w'
                    go_simp
                    with_reducible rfl
                  rotate_left
                  · simp only [Act.put, List.setIfInBounds_toArray, List.set_cons_zero, List.set_cons_succ, i64_w, i32_w]
                    rfl
                  refine take_ (i := 3) (N := some 17) (v := ?_) (a' := ?_) #[true, true, true, true, false, false] rfl rfl (by kernel_rfl) (fun _ _ _ h => h) (Or.inl ⟨by rfl, ?_⟩) hHeld ?_ ?_
                  rotate_left
                  · rintro w' ⟨s0, s1, s2, s3, s4, s5⟩
                    go_simp
                    with_reducible rfl
                  rotate_left
                  · simp only [Act.put, List.setIfInBounds_toArray, List.set_cons_zero, List.set_cons_succ, i64_w, i32_w]
                    rfl
                  refine take_ (i := 4) (N := some 18) (v := ?_) (a' := ?_) #[true, true, true, true, true, false] rfl rfl (by kernel_rfl) (fun _ _ _ h => h) (Or.inl ⟨by rfl, ?_⟩) hHeld ?_ ?_
                  rotate_left
                  · rintro w' ⟨s0, s1, s2, s3, s4, s5⟩
                    go_simp
                    with_reducible rfl
                  rotate_left
                  · simp only [Act.put, List.setIfInBounds_toArray, List.set_cons_zero, List.set_cons_succ, i64_w, i32_w]
                    rfl
                  refine pure_ (i := 5) (N := some 19) (v := ?_) (a' := ?_) #[true, true, true, true, true, true] rfl rfl (by kernel_rfl) (fun _ _ _ h => h) (Or.inl ⟨by rfl, ?_⟩) ?_ ?_
                  rotate_left
                  · intro w'
                    go_simp
                    with_reducible rfl
                  rotate_left
                  · simp only [Act.put, List.setIfInBounds_toArray, List.set_cons_zero, List.set_cons_succ, i64_w, i32_w]
                    rfl
                  refine done_ (by kernel_rfl) ?_
                  try go_wp2
                  have n0_ := Aside0.mk (Kd.R_drew HO_0.out)
                  have n1_ := Aside0.mk (Kd.R_drew HO_5.out)
                  have n2_ := Aside0.mk (blk_drew BK153.out)
                  have n3_ := Aside0.mk (Kept.drew HK.out)
                  have n4_ := Aside0.mk (below_drew1 HB.out)
                  clear HO_0
                  clear HO_5
                  clear BK153
                  clear HK
                  clear HB
                  have HO_0 := n0_
                  have HO_5 := n1_
                  have BK153 := n2_
                  have HK := n3_
                  have HB := n4_
                  clear n0_ n1_ n2_ n3_ n4_
                  have p162 : 0 ≤ (x7_1 : Int) := of_decide_eq_true (by first | (with_reducible assumption) | assumption)
                  have q162 : x7_1 < (l0.length : Int) := of_decide_eq_true (by first | (with_reducible assumption) | assumption)
                  obtain ⟨ad162, e162, hx162_0, hx162_1, hx162_2⟩ := at_T25 (Kd.R_reads' HO_0.out).2.2 x7_1 p162 q162
                  obtain rfl : ad157 = ad162 := (by injection e162)
                  replace p162 := eq_true p162
                  replace q162 := eq_true q162
                  refine start_ (n := 10) (S := fun w' => w'.cell? ⟨gb153, 0, none⟩ = some (.string a1_0) ∧ w'.cell? ⟨gb153, 1, none⟩ = some (.string a1_1) ∧ w'.cell? ⟨gb153, 2, none⟩ = some (.string a1_2) ∧ w'.cell? (ad157.add ((x7_1).toNat * 3)) = some (.string ((rd_T25 l0 x7_1).f0)) ∧ w'.cell? ⟨(ad157.add ((x7_1).toNat * 3)).block, (ad157.add ((x7_1).toNat * 3)).off + 1, none⟩ = some (.string ((rd_T25 l0 x7_1).f1)) ∧ w'.cell? ⟨(ad157.add ((x7_1).toNat * 3)).block, (ad157.add ((x7_1).toNat * 3)).off + 2, none⟩ = some (.string ((rd_T25 l0 x7_1).f2))) (ds := []) #[false, false, false, false, false, false, false, false, false, false] (by kernel_rfl) rfl rfl ⟨(blk_cell BK153.out 0).trans rfl, (blk_cell BK153.out 1).trans rfl, (blk_cell BK153.out 2).trans rfl, hx162_0, hx162_1, hx162_2⟩ (fun hHeld => ?_); refine with_tabW porterref05_With.tab8 porterref05_With.bits8 (fun HT_ HW_ => ?_)
                  generalize w28.drew = w29 at HO_0 HO_5 BK153 HK HB hx162_0 hx162_1 hx162_2 hHeld ⊢
                  refine pure_ (i := 0) (N := some 21) (v := ?_) (a' := ?_) #[true, false, false, false, false, false, false, false, false, false] rfl rfl (any_of HT_.out (by kernel_rfl)) (fun _ _ _ h => h) (Or.inl ⟨by rfl, ?_⟩) ?_ ?_
                  rotate_left
                  · intro w'
                    go_simp
                    with_reducible rfl
                  rotate_left
                  · simp only [Act.put, List.setIfInBounds_toArray, List.set_cons_zero, List.set_cons_succ, i64_w, i32_w]
                    rfl
                  refine pure_ (i := 1) (N := some 22) (v := ?_) (a' := ?_) #[true, true, false, false, false, false, false, false, false, false] rfl rfl (any_of HT_.out (by kernel_rfl)) (fun _ _ _ h => h) (Or.inl ⟨by rfl, ?_⟩) ?_ ?_
                  rotate_left
                  · intro w'
                    go_simp
                    with_reducible rfl
                  rotate_left
                  · simp only [Act.put, List.setIfInBounds_toArray, List.set_cons_zero, List.set_cons_succ, i64_w, i32_w]
                    rfl
                  refine pure_ (i := 2) (N := some 23) (v := ?_) (a' := ?_) #[true, true, true, false, false, false, false, false, false, false] rfl rfl (any_of HT_.out (by kernel_rfl)) (fun _ _ _ h => h) (Or.inl ⟨by rfl, ?_⟩) ?_ ?_
                  rotate_left
                  · intro w'
                    go_simp
                    with_reducible rfl
                  rotate_left
                  · simp only [Act.put, List.setIfInBounds_toArray, List.set_cons_zero, List.set_cons_succ, i64_w, i32_w]
                    rfl
                  refine pure_ (i := 4) (N := some 25) (v := ?_) (a' := ?_) #[true, true, true, false, true, false, false, false, false, false] rfl rfl (any_of HT_.out (by kernel_rfl)) (fun _ _ _ h => h) (Or.inl ⟨by rfl, ?_⟩) ?_ ?_
                  rotate_left
                  · intro w'
                    go_simp
                    with_reducible rfl
                  rotate_left
                  · simp only [Act.put, List.setIfInBounds_toArray, List.set_cons_zero, List.set_cons_succ, i64_w, i32_w]
                    rfl
                  refine pure_ (i := 5) (N := some 26) (v := ?_) (a' := ?_) #[true, true, true, false, true, true, false, false, false, false] rfl rfl (any_of HT_.out (by kernel_rfl)) (fun _ _ _ h => h) (Or.inl ⟨by rfl, ?_⟩) ?_ ?_
                  rotate_left
                  · intro w'
                    go_simp
                    with_reducible rfl
                  rotate_left
                  · simp only [Act.put, List.setIfInBounds_toArray, List.set_cons_zero, List.set_cons_succ, i64_w, i32_w]
                    rfl
                  refine pure_ (i := 6) (N := some 27) (v := ?_) (a' := ?_) #[true, true, true, false, true, true, true, false, false, false] rfl rfl (any_of HT_.out (by kernel_rfl)) (fun _ _ _ h => h) (Or.inl ⟨by rfl, ?_⟩) ?_ ?_
                  rotate_left
                  · intro w'
                    go_simp
                    with_reducible rfl
                  rotate_left
                  · simp only [Act.put, List.setIfInBounds_toArray, List.set_cons_zero, List.set_cons_succ, i64_w, i32_w]
                    rfl
                  refine take_ (i := 3) (N := some 24) (v := ?_) (a' := ?_) #[true, true, true, true, true, true, true, false, false, false] rfl rfl (take_ofW HT_.out HW_.out (by kernel_rfl)) (fun _ _ _ h => h) (Or.inl ⟨by rfl, ?_⟩) hHeld ?_ ?_
                  rotate_left
                  · rintro w' ⟨s0, s1, s2, s3, s4, s5⟩
                    go_simp
                    with_reducible rfl
                  rotate_left
                  · simp only [Act.put, List.setIfInBounds_toArray, List.set_cons_zero, List.set_cons_succ, i64_w, i32_w]
                    rfl
                  refine take_ (i := 7) (N := some 28) (v := ?_) (a' := ?_) #[true, true, true, true, true, true, true, true, false, false] rfl rfl (take_ofW HT_.out HW_.out (by kernel_rfl)) (fun _ _ _ h => h) (Or.inl ⟨by rfl, ?_⟩) hHeld ?_ ?_
                  rotate_left
                  · rintro w' ⟨s0, s1, s2, s3, s4, s5⟩
                    go_simp
                    with_reducible rfl
                  rotate_left
                  · simp only [Act.put, List.setIfInBounds_toArray, List.set_cons_zero, List.set_cons_succ, i64_w, i32_w]
                    rfl
                  refine one_ (i := 8) (N := some 29) #[true, true, true, true, true, true, true, true, true, false] rfl rfl (one_of HT_.out (by kernel_rfl)) (by decide) (fun K hK => ?_)
                  refine goes_ Try.func45 (by kernel_rfl) rfl #[.agg #[.string a1_0, .string a1_1, .string a1_2], .agg #[.string ((rd_T25 l0 x7_1).f0), .string ((rd_T25 l0 x7_1).f1), .string ((rd_T25 l0 x7_1).f2)]] (by rfl) rfl rfl (by (try simp only [List.map_toArray, List.map_cons, List.map_nil]); first | done | rfl | (simp only [List.length_drop, List.length_take]; rfl)) ?_
                  with_reducible refine (porterref05_Less.calls a1_0 a1_1 a1_2 ((rd_T25 l0 x7_1).f0) ((rd_T25 l0 x7_1).f1) ((rd_T25 l0 x7_1).f2) false _ A15.out).mono ?_
                  rintro e w30 ⟨rfl, hb⟩
                  have HS3_ := (hb.cell (World.block_lt_of_cell? _ _ (hHeld.2.2.2.1))).trans (hHeld.2.2.2.1)
                  have HS4_ := (hb.cell (World.block_lt_of_cell? _ _ (hHeld.2.2.2.2.1))).trans (hHeld.2.2.2.2.1)
                  have HS5_ := (hb.cell (World.block_lt_of_cell? _ _ (hHeld.2.2.2.2.2))).trans (hHeld.2.2.2.2.2)
                  refine ⟨_, rfl, ?_⟩
                  have n0_ := Aside0.mk (Kd.R_below (by (with_reducible repeat (first | apply Kd.R_alloc | apply Kd.R_drewN | apply Kd.R_drew)); exact HO_0.out) hb)
                  have n1_ := Aside0.mk (Kd.R_below (by (with_reducible repeat (first | apply Kd.R_alloc | apply Kd.R_drewN | apply Kd.R_drew)); exact HO_5.out) hb)
                  have n2_ := Aside0.mk (blk_below (g := gb153) (o := .cells #[.string a1_0, .string a1_1, .string a1_2] 25 (0, 0)) (by (with_reducible repeat (first | refine blk_drewN ?_ _ | refine blk_drew ?_ | refine blk_alloc ?_ _)); exact BK153.out) hb)
                  have n3_ := Aside0.mk (Kept.below (S := (fun k_ => P0_ k_)) (by repeat (first | (with_reducible first | exact HK.out | apply Kept.alloc | apply Kept.drewN | apply Kept.drew | refine Kept.setCell ?_ (.inr GW153.out) _) | exact HK.out)) hb)
                  have n4_ := Aside0.mk (below_step (by repeat (first | (with_reducible first | exact HB.out | apply below_alloc | apply pw_below_drewN | apply below_drew1 | refine below_set ?_ GE153.out) | exact HB.out)) hb)
                  clear HO_0
                  clear HO_5
                  clear BK153
                  clear HK
                  clear HB
                  have HO_0 := n0_
                  have HO_5 := n1_
                  have BK153 := n2_
                  have HK := n3_
                  have HB := n4_
                  clear n0_ n1_ n2_ n3_ n4_
                  (try clear hb)
                  (try clear hb2)
                  (try clear hk)
                  (try clear hi)
                  refine hK.out _ _ ⟨(blk_cell BK153.out 0).trans rfl, (blk_cell BK153.out 1).trans rfl, (blk_cell BK153.out 2).trans rfl, HS3_, HS4_, HS5_⟩ (fun hHeld => ?_)
                  clear hK K
                  refine norm_ (a' := ?_) ?_ ?_
                  rotate_left
                  · show Act.put _ (some 29) _ = _
                    simp only [Act.put, List.setIfInBounds_toArray, List.set_cons_zero, List.set_cons_succ, i64_w, i32_w]
                    rfl
                  refine pure_ (i := 9) (N := some 30) (v := ?_) (a' := ?_) #[true, true, true, true, true, true, true, true, true, true] rfl rfl (any_of HT_.out (by kernel_rfl)) (fun _ _ _ h => h) (Or.inl ⟨by rfl, ?_⟩) ?_ ?_
                  rotate_left
                  · intro w'
                    go_simp
                    with_reducible rfl
                  rotate_left
                  · simp only [Act.put, List.setIfInBounds_toArray, List.set_cons_zero, List.set_cons_succ, i64_w, i32_w]
                    rfl
                  refine done_ (done_of HT_.out (by kernel_rfl)) ?_
                  have p171 : 0 ≤ (x7_1 : Int) := of_decide_eq_true (by first | (with_reducible assumption) | assumption)
                  have q171 : x7_1 < (l0.length : Int) := of_decide_eq_true (by first | (with_reducible assumption) | assumption)
                  obtain ⟨ad171, e171, hx171_0, hx171_1, hx171_2⟩ := at_T25 (Kd.R_reads' HO_0.out).2.2 x7_1 p171 q171
                  obtain rfl : ad157 = ad171 := (by injection e171)
                  replace p171 := eq_true p171
                  replace q171 := eq_true q171
                  try go_wp2_with (first | ((with_reducible refine gate_builtin (b := .append) (xs := #[.tmp 35, .tmp 40]) rfl ?_); at_builtin; refine Kd.R_append k25 (w0 := w0) w0.heap.size rfl (.tmp 35) (.tmp 40) 34 25 (.agg #[(.string ⟨#[]⟩), (.string ⟨#[]⟩), (.string ⟨#[]⟩)]) 48 rfl Try.underlying34 info25 rfl (by decide) (by omega) u5 x5_1 (⟨(rd_T25 l0 x7_1).f0, (rd_T25 l0 x7_1).f1, (rd_T25 l0 x7_1).f2⟩ : S25) [.string ((rd_T25 l0 x7_1).f0), .string ((rd_T25 l0 x7_1).f1), .string ((rd_T25 l0 x7_1).f2)] (fun k_ => (P0_ k_ ∨ w.heap.size ≤ k_) ∧ some k_ ≠ (.slice (some ad157) l0.length co27 : Value).ownBlock ∧ k_ ≠ gb153) (fun _ => False) rfl rfl ?aP (fun _ hk => hk.elim) ?aF ?aO ?aB ?aS ?aL ?_; (case aP => exact k25_mkM _ _ _ (⟨(rd_T25 l0 x7_1).f0, (rd_T25 l0 x7_1).f1, (rd_T25 l0 x7_1).f2⟩ : S25)); (case aB => exact (by repeat (first | (with_reducible first | exact HB.out | apply below_alloc | apply pw_below_drewN | apply below_drew1 | refine below_set ?_ GE153.out) | exact HB.out))); (case aF => exact (fun k_ hk => ⟨(.inr (Nat.le_trans (by first | exact HK.out.1 | exact (show Kept w _ (fun k_ => P0_ k_) from by repeat (first | (with_reducible first | exact HK.out | apply Kept.alloc | apply Kept.drewN | apply Kept.drew | refine Kept.setCell ?_ (.inr GW153.out) _) | exact HK.out)).1) hk)), Kd.fresh' (Kd.R_lt (by (with_reducible repeat (first | apply Kd.R_alloc | apply Kd.R_drewN | apply Kd.R_drew)); exact HO_0.out)) k_ hk, Kd.freshB (g := gb153) (o := .cells #[.string a1_0, .string a1_1, .string a1_2] 25 (0, 0)) (by (with_reducible repeat (first | refine blk_drewN ?_ _ | refine blk_drew ?_ | refine blk_alloc ?_ _)); exact BK153.out) k_ hk⟩)); (case aO => exact (by (with_reducible repeat (first | apply Kd.R_alloc | apply Kd.R_drewN | apply Kd.R_drew)); exact HO_5.out)); (case aS => exact (below_size (by repeat (first | (with_reducible first | exact HB.out | apply below_alloc | apply pw_below_drewN | apply below_drew1 | refine below_set ?_ GE153.out) | exact HB.out)))); (case aL => have := LMc26.out; omega); intro v173 w31 ho hb hg hat; rw [← Ny172.out] at ho; have n0_ := Aside0.mk (Kd.R_after (ok := (fun k_ => (P0_ k_ ∨ w.heap.size ≤ k_) ∧ k_ ≠ gb153)) (by (with_reducible repeat (first | apply Kd.R_alloc | apply Kd.R_drewN | apply Kd.R_drew)); exact Kd.R_mono HO_0.out (fun _ hk => ⟨⟨hk.1, hk.2.2⟩, hk.2.1⟩)) hg hat); have n1_ := Aside0.mk (blk_grown (g := gb153) (o := .cells #[.string a1_0, .string a1_1, .string a1_2] 25 (0, 0)) (by (with_reducible repeat (first | refine blk_drewN ?_ _ | refine blk_drew ?_ | refine blk_alloc ?_ _)); exact BK153.out) hg (Kd.R_away HO_5.out (fun _ hk => hk.2.2))); have n2_ := Aside0.mk (hb); have n3_ := Aside0.mk (Kept.of_grown (S := (fun k_ => P0_ k_)) hg (by repeat (first | (with_reducible first | exact HK.out | apply Kept.alloc | apply Kept.drewN | apply Kept.drew | refine Kept.setCell ?_ (.inr GW153.out) _) | exact HK.out)) (fun k_ e_ => (HO_5.out.1 k_ e_).1)); have n4_ := Aside0.mk (ho); clear HO_0; clear BK153; clear HB; clear HK; clear HO_5; have HO_0 := n0_; have BK153 := n1_; have HB := n2_; have HK := n3_; have HO174 := n4_; clear n0_ n1_ n2_ n3_ n4_; clear ho hb hg hat))
                  go_roundg k1
                  case measure => have := HK1.out; omega
                  case rel => exact ⟨(y172), (false), (wrap64 (x7_1 + 1)), (by first | rfl | (simp; done) | (simp [*]; done)), (by first | rfl | (simp; done) | (simp [*]; done)), H', ⟨by have := HK1.out; omega⟩, ⟨by (with_reducible repeat (first | apply Kd.R_alloc | apply Kd.R_drewN | apply Kd.R_drew)); exact Kd.R_mono HO_0.out (fun _ hk => ⟨hk.1.1, ⟨hk.2, hk.1.2⟩⟩)⟩, ⟨by (with_reducible repeat (first | apply Kd.R_alloc | apply Kd.R_drewN | apply Kd.R_drew)); exact HO174.out⟩, ⟨by (with_reducible repeat (first | refine blk_drewN ?_ _ | refine blk_drew ?_ | refine blk_alloc ?_ _)); exact BK153.out⟩, ⟨by repeat (first | (with_reducible first | exact HK.out | apply Kept.alloc | apply Kept.drewN | apply Kept.drew | refine Kept.setCell ?_ (.inr GW153.out) _) | exact HK.out)⟩, ⟨by repeat (first | (with_reducible first | exact HB.out | apply below_alloc | apply pw_below_drewN | apply below_drew1 | refine below_set ?_ GE153.out) | exact HB.out)⟩⟩
                · rw [if_neg c26] at H
                  exact absurd H (by simp)
        · rw [if_neg c5] at H
          exact absurd H (by simp)
      · rw [if_neg c4] at H
        have c4b0 : decide (x7_1 < (l0.length : Int)) = false := decide_eq_false c4
        clear c4
        by_cases c32 : x6_1 = true
        · subst c32
          have H1 : (some x5_1) = some r := by rw [if_pos rfl] at H; exact H
          clear H
          have H := H1
          clear H1
          obtain rfl := Option.some.inj H
          obtain ⟨Ao33, co33, eo33⟩ := Kd.R_slice HO_0.out
          subst eo33
          go_wp2
          go_ret
          exact ⟨_, by first | rfl | (simp [errW_none, errW_some] <;> rfl) | (simp [*, errW_none, errW_some] <;> rfl), by (with_reducible repeat (first | apply Kd.R_alloc | apply Kd.R_drewN | apply Kd.R_drew)); exact Kd.R_mono HO_5.out (fun _ hk => hk.1), by repeat (first | (with_reducible first | exact HB.out | apply below_alloc | apply pw_below_drewN | apply below_drew1 | refine below_set ?_ GE153.out) | exact HB.out), by repeat (first | (with_reducible first | exact HK.out | apply Kept.alloc | apply Kept.drewN | apply Kept.drew | refine Kept.setCell ?_ (.inr GW153.out) _) | exact HK.out)⟩
        · replace c32 := Bool.eq_false_iff.mpr c32
          subst c32
          have H1 : (if x5_1.length < 2932031007402 then (some (x5_1 ++ [(⟨a1_0, a1_1, a1_2⟩ : S25)])) else (none)) = some r := by rw [if_neg (show ¬ (false = true) by decide)] at H; exact H
          clear H
          have H := H1
          clear H1
          by_cases c34 : x5_1.length < 2932031007402
          · rw [if_pos c34] at H
            have LMc34 := Aside0.mk c34
            clear c34
            obtain ⟨y154, hy154⟩ : ∃ y_ : List (S25), y_ = (x5_1 ++ [(⟨a1_0, a1_1, a1_2⟩ : S25)]) := ⟨_, rfl⟩
            replace H : (some y154) = some r := by first | (rw [hy154]; with_reducible exact H) | (have H2_ := (Option.bind_some _ _).symm.trans H; rw [hy154]; with_reducible exact H2_) | (have H2_ := (Option.bind_some _ _).symm.trans H; with_reducible exact H2_) | with_reducible exact H | (rw [hy154]; exact H) | exact H
            have Ny154 := Aside0.mk hy154
            clear hy154
            obtain rfl := Option.some.inj H
            obtain ⟨Ao35, co35, eo35⟩ := Kd.R_slice HO_0.out
            subst eo35
            have hcz36_0 : wr.cell? ⟨gb153, 0, none⟩ = some (.string a1_0) := (blk_cell BK153.out 0).trans rfl
            have hcz36_1 : wr.cell? ⟨gb153, 1, none⟩ = some (.string a1_1) := (blk_cell BK153.out 1).trans rfl
            have hcz36_2 : wr.cell? ⟨gb153, 2, none⟩ = some (.string a1_2) := (blk_cell BK153.out 2).trans rfl
            have hfz36_0 := blk_frozen BK153.out 0
            have hfz36_1 := blk_frozen BK153.out 1
            have hfz36_2 := blk_frozen BK153.out 2
            go_wp2_with (first | ((with_reducible refine gate_builtin (b := .append) (xs := #[.tmp 44, .tmp 46]) rfl ?_); at_builtin; refine Kd.R_append k25 (w0 := w0) w0.heap.size rfl (.tmp 44) (.tmp 46) 34 25 (.agg #[(.string ⟨#[]⟩), (.string ⟨#[]⟩), (.string ⟨#[]⟩)]) 48 rfl Try.underlying34 info25 rfl (by decide) (by omega) u5 x5_1 (⟨a1_0, a1_1, a1_2⟩ : S25) [.string a1_0, .string a1_1, .string a1_2] (fun k_ => (P0_ k_ ∨ w.heap.size ≤ k_) ∧ some k_ ≠ (.slice Ao35 l0.length co35 : Value).ownBlock ∧ k_ ≠ gb153) (fun _ => False) rfl rfl ?aP (fun _ hk => hk.elim) ?aF ?aO ?aB ?aS ?aL ?_; (case aP => exact k25_mkM _ _ _ (⟨a1_0, a1_1, a1_2⟩ : S25)); (case aB => exact (by repeat (first | (with_reducible first | exact HB.out | apply below_alloc | apply pw_below_drewN | apply below_drew1 | refine below_set ?_ GE153.out) | exact HB.out))); (case aF => exact (fun k_ hk => ⟨(.inr (Nat.le_trans (by first | exact HK.out.1 | exact (show Kept w _ (fun k_ => P0_ k_) from by repeat (first | (with_reducible first | exact HK.out | apply Kept.alloc | apply Kept.drewN | apply Kept.drew | refine Kept.setCell ?_ (.inr GW153.out) _) | exact HK.out)).1) hk)), Kd.fresh' (Kd.R_lt (by (with_reducible repeat (first | apply Kd.R_alloc | apply Kd.R_drewN | apply Kd.R_drew)); exact HO_0.out)) k_ hk, Kd.freshB (g := gb153) (o := .cells #[.string a1_0, .string a1_1, .string a1_2] 25 (0, 0)) (by (with_reducible repeat (first | refine blk_drewN ?_ _ | refine blk_drew ?_ | refine blk_alloc ?_ _)); exact BK153.out) k_ hk⟩)); (case aO => exact (by (with_reducible repeat (first | apply Kd.R_alloc | apply Kd.R_drewN | apply Kd.R_drew)); exact HO_5.out)); (case aS => exact (below_size (by repeat (first | (with_reducible first | exact HB.out | apply below_alloc | apply pw_below_drewN | apply below_drew1 | refine below_set ?_ GE153.out) | exact HB.out)))); (case aL => have := LMc34.out; omega); intro v155 w37 ho hb hg hat; rw [← Ny154.out] at ho; have n0_ := Aside0.mk (Kd.R_after (ok := (fun k_ => (P0_ k_ ∨ w.heap.size ≤ k_) ∧ k_ ≠ gb153)) (by (with_reducible repeat (first | apply Kd.R_alloc | apply Kd.R_drewN | apply Kd.R_drew)); exact Kd.R_mono HO_0.out (fun _ hk => ⟨⟨hk.1, hk.2.2⟩, hk.2.1⟩)) hg hat); have n1_ := Aside0.mk (blk_grown (g := gb153) (o := .cells #[.string a1_0, .string a1_1, .string a1_2] 25 (0, 0)) (by (with_reducible repeat (first | refine blk_drewN ?_ _ | refine blk_drew ?_ | refine blk_alloc ?_ _)); exact BK153.out) hg (Kd.R_away HO_5.out (fun _ hk => hk.2.2))); have n2_ := Aside0.mk (hb); have n3_ := Aside0.mk (Kept.of_grown (S := (fun k_ => P0_ k_)) hg (by repeat (first | (with_reducible first | exact HK.out | apply Kept.alloc | apply Kept.drewN | apply Kept.drew | refine Kept.setCell ?_ (.inr GW153.out) _) | exact HK.out)) (fun k_ e_ => (HO_5.out.1 k_ e_).1)); have n4_ := Aside0.mk (ho); clear HO_0; clear BK153; clear HB; clear HK; clear HO_5; have HO_0 := n0_; have BK153 := n1_; have HB := n2_; have HK := n3_; have HO156 := n4_; clear n0_ n1_ n2_ n3_ n4_; clear ho hb hg hat))
            go_ret
            exact ⟨_, by first | rfl | (simp [errW_none, errW_some] <;> rfl) | (simp [*, errW_none, errW_some] <;> rfl), by (with_reducible repeat (first | apply Kd.R_alloc | apply Kd.R_drewN | apply Kd.R_drew)); exact Kd.R_mono HO156.out (fun _ hk => hk.1), by repeat (first | (with_reducible first | exact HB.out | apply below_alloc | apply pw_below_drewN | apply below_drew1 | refine below_set ?_ GE153.out) | exact HB.out), by repeat (first | (with_reducible first | exact HK.out | apply Kept.alloc | apply Kept.drewN | apply Kept.drew | refine Kept.setCell ?_ (.inr GW153.out) _) | exact HK.out)⟩
          · rw [if_neg c34] at H
            exact absurd H (by simp)

end Go.Proofs.Ytgjkidclpehnjaa.Pr

namespace Go.Proofs.Ytgjkidclpehnjaa.Pr
open Go.RowKit Go.Proofs.YtgjkidclpehnjaaW.PrintWords Go.Proofs.YtgjkidclpehnjaaW.PrintLast Go.Proofs.YtgjkidclpehnjaaW.PrintMore
attribute [local go_sem] max2_int min2_int max_two min_two max_three min_three max_four min_four   -- for this text's walks alone
set_option linter.unusedVariables false
set_option linter.unusedSimpArgs false

attribute [local go_sem high] eqA25
/-! ### porterref22_Play: function 12 -/
mutual
def porterref22_Play.l0 : Nat → List (S25) → List (S65) → List (S25) → Int → Option ((List (S25)))
  | 0, _, _, _, _ => none
  | k + 1, x0, x1, x5, x6 => if x6 < (x0.length : Int) then (if 0 ≤ x6 then ((porterref05_With.f k x5 ((rd_T25 x0 x6).f0) ((rd_T25 x0 x6).f1) ((rd_T25 x0 x6).f2)).bind fun t176 => (porterref22_Play.l0 k x0 x1 t176 (wrap64 (x6 + 1)))) else (none)) else (porterref22_Play.l1 k x1 x5 0)
def porterref22_Play.l1 : Nat → List (S65) → List (S25) → Int → Option ((List (S25)))
  | 0, _, _, _ => none
  | k + 1, x1, x5, x7 => if x7 < (x1.length : Int) then (if 0 ≤ x7 then (if (rd_T65 x1 x7).f1 = true then (porterref22_Play.l2 k x1 x5 x7 ([] : List (S25)) 0) else ((porterref05_With.f k x5 ((rd_T65 x1 x7).f2.f0) ((rd_T65 x1 x7).f2.f1) ((rd_T65 x1 x7).f2.f2)).bind fun t187 => (porterref22_Play.l1 k x1 t187 (wrap64 (x7 + 1))))) else (none)) else (some x5)
def porterref22_Play.l2 : Nat → List (S65) → List (S25) → Int → List (S25) → Int → Option ((List (S25)))
  | 0, _, _, _, _, _ => none
  | k + 1, x1, x5, x7, x8, x9 => if x9 < (x5.length : Int) then (if 0 ≤ x9 then (if 0 ≤ x7 then (if x7 < (x1.length : Int) then (if (!((((rd_T25 x5 x9).f0).toList) == (((rd_T65 x1 x7).f2.f0).toList)) || (!((((rd_T25 x5 x9).f1).toList) == (((rd_T65 x1 x7).f2.f1).toList)) || (!((((rd_T25 x5 x9).f2).toList) == (((rd_T65 x1 x7).f2.f2).toList))))) = true then (if x8.length < 2932031007402 then (porterref22_Play.l2 k x1 x5 x7 (x8 ++ [(⟨(rd_T25 x5 x9).f0, (rd_T25 x5 x9).f1, (rd_T25 x5 x9).f2⟩ : S25)]) (wrap64 (x9 + 1))) else (none)) else (porterref22_Play.l2 k x1 x5 x7 x8 (wrap64 (x9 + 1)))) else (none)) else (none)) else (none)) else (porterref22_Play.l1 k x1 x8 (wrap64 (x7 + 1)))
end
def porterref22_Play.f (k : Nat) (l0 : List (S25)) (l1 : List (S65)) : Option ((List (S25))) := porterref22_Play.l0 k l0 l1 ([] : List (S25)) 0
theorem porterref22_Play.mono_l : ∀ k, (∀ y0 y1 y2 y3, LeO (porterref22_Play.l0 k y0 y1 y2 y3) (porterref22_Play.l0 (k + 1) y0 y1 y2 y3)) ∧ (∀ y0 y1 y2, LeO (porterref22_Play.l1 k y0 y1 y2) (porterref22_Play.l1 (k + 1) y0 y1 y2)) ∧ (∀ y0 y1 y2 y3 y4, LeO (porterref22_Play.l2 k y0 y1 y2 y3 y4) (porterref22_Play.l2 (k + 1) y0 y1 y2 y3 y4))
  | 0 => ⟨fun _ _ _ _ r h => by simp [porterref22_Play.l0] at h, fun _ _ _ r h => by simp [porterref22_Play.l1] at h, fun _ _ _ _ _ r h => by simp [porterref22_Play.l2] at h⟩
  | k + 1 => by
    obtain ⟨ih0, ih1, ih2⟩ := porterref22_Play.mono_l k
    refine ⟨?_, ?_, ?_⟩
    · intro y0 y1 y2 y3
      unfold porterref22_Play.l0
      repeat' first
      | (with_reducible exact ih0 _ _ _ _)
      | (with_reducible exact ih1 _ _ _)
      | (with_reducible exact ih2 _ _ _ _ _)
      | (with_reducible exact porterref05_With.mono _ _ _ _ _)
      | (with_reducible exact LeO.refl _)
      | (with_reducible exact LeO.none _)
      | (with_reducible refine LeO.ite ?_ ?_)
      | (with_reducible refine LeO.bind ?_ (fun _ => ?_))
      | exact ih0 _ _ _ _
      | exact ih1 _ _ _
      | exact ih2 _ _ _ _ _
      | exact porterref05_With.mono _ _ _ _ _
      | exact LeO.none _
      | refine LeO.ite ?_ ?_
      | refine LeO.bind ?_ (fun _ => ?_)
    · intro y0 y1 y2
      unfold porterref22_Play.l1
      repeat' first
      | (with_reducible exact ih0 _ _ _ _)
      | (with_reducible exact ih1 _ _ _)
      | (with_reducible exact ih2 _ _ _ _ _)
      | (with_reducible exact porterref05_With.mono _ _ _ _ _)
      | (with_reducible exact LeO.refl _)
      | (with_reducible exact LeO.none _)
      | (with_reducible refine LeO.ite ?_ ?_)
      | (with_reducible refine LeO.bind ?_ (fun _ => ?_))
      | exact ih0 _ _ _ _
      | exact ih1 _ _ _
      | exact ih2 _ _ _ _ _
      | exact porterref05_With.mono _ _ _ _ _
      | exact LeO.none _
      | refine LeO.ite ?_ ?_
      | refine LeO.bind ?_ (fun _ => ?_)
    · intro y0 y1 y2 y3 y4
      unfold porterref22_Play.l2
      repeat' first
      | (with_reducible exact ih0 _ _ _ _)
      | (with_reducible exact ih1 _ _ _)
      | (with_reducible exact ih2 _ _ _ _ _)
      | (with_reducible exact porterref05_With.mono _ _ _ _ _)
      | (with_reducible exact LeO.refl _)
      | (with_reducible exact LeO.none _)
      | (with_reducible refine LeO.ite ?_ ?_)
      | (with_reducible refine LeO.bind ?_ (fun _ => ?_))
      | exact ih0 _ _ _ _
      | exact ih1 _ _ _
      | exact ih2 _ _ _ _ _
      | exact porterref05_With.mono _ _ _ _ _
      | exact LeO.none _
      | refine LeO.ite ?_ ?_
      | refine LeO.bind ?_ (fun _ => ?_)
theorem porterref22_Play.mono : ∀ a0 a1 k, LeO (porterref22_Play.f k a0 a1) (porterref22_Play.f (k + 1) a0 a1) := by
  intro a0 a1 k
  obtain ⟨ih0, ih1, ih2⟩ := porterref22_Play.mono_l k
  unfold porterref22_Play.f
  repeat' first
      | (with_reducible exact ih0 _ _ _ _)
      | (with_reducible exact ih1 _ _ _)
      | (with_reducible exact ih2 _ _ _ _ _)
      | (with_reducible exact porterref05_With.mono _ _ _ _ _)
      | (with_reducible exact LeO.refl _)
      | (with_reducible exact LeO.none _)
      | (with_reducible refine LeO.ite ?_ ?_)
      | (with_reducible refine LeO.bind ?_ (fun _ => ?_))
      | exact ih0 _ _ _ _
      | exact ih1 _ _ _
      | exact ih2 _ _ _ _ _
      | exact porterref05_With.mono _ _ _ _ _
      | exact LeO.none _
      | refine LeO.ite ?_ ?_
      | refine LeO.bind ?_ (fun _ => ?_)
set_option maxHeartbeats 8000000 in
set_option maxRecDepth 100000 in
theorem porterref22_Play.calls (k : Nat) (A0 : Option Addr) (c0 : Nat) (l0 : List (S25)) (A1 : Option Addr) (c1 : Nat) (l1 : List (S65)) (r : List (S25)) (w : World) (hr0 : Kd.C k25 w A0 l0.length l0) (hc0 : l0.length ≤ c0) (hr1 : Kd.C k65 w A1 l1.length l1) (hc1 : l1.length ≤ c1) (h : porterref22_Play.f k l0 l1 = some r) :
    Calls Try.prog 12 #[.slice A0 l0.length c0, .slice A1 l1.length c1] w fun e w' => ∃ v0_ : Value, e = .returned (v0_) ∧ Kd.R k25 25 w' w.heap.size (fun _ => True) v0_ r ∧ Below w.heap.size w w' := by
  have hu25 := Try.underlying25
  have HR0 := Aside0.mk hr0
  have HC0 := Aside0.mk hc0
  clear hr0 hc0
  have HR1 := Aside0.mk hr1
  have HC1 := Aside0.mk hc1
  clear hr1 hc1
  have HB := Aside0.mk (Below.refl w.heap.size w)
  have H : (porterref22_Play.l0 k l0 l1 ([] : List (S25)) 0) = some r := h
  clear h
  have H' := Aside0.mk H
  clear H
  go_enter Try.func12, Try.ntmps12
  go_wp2
  repeat (go_quiet (fail); try go_wp2)
  go_loopg [5, 6] k (fun kq v5 v6 w' => ∃ (x5_1 : List (S25)) (x6_1 : Int), v6 = .int .i64 x6_1 ∧ Aside0 (porterref22_Play.l0 kq l0 l1 x5_1 x6_1 = some r) ∧ Aside0 (kq ≤ k) ∧ Aside0 (Kd.R k25 25 w' w.heap.size (fun _ => True) v5 x5_1) ∧ Aside0 (Below w.heap.size w w'))
  case atStart => exact ⟨(([] : List (S25))), (0), (by first | rfl | (simp; done) | (simp [*]; done)), H', ⟨Nat.le_refl _⟩, ⟨by first | exact Kd.R_nil _ _ _ _ _ | exact Kd.N_nil _ _ _ _ _ | exact Kd.V_nil _ _ _ _ _ | exact Kd.Q_nil _ _ _ _ _ | exact Kd.S_nil _ _ _ _ _⟩, ⟨by repeat (first | (with_reducible first | exact HB.out | apply below_alloc | apply pw_below_drewN | apply below_drew1) | exact HB.out)⟩⟩
  case round =>
    clear H'
    try clear c1
    try clear p2
    obtain ⟨x5_1, x6_1, rfl, HA, HK1, HO_5, HB⟩ := hrel
    cases gk with
    | zero => exact absurd HA.out (by simp [porterref22_Play.l0])
    | succ k1 =>
      have H := HA.out
      clear HA
      simp only [porterref22_Play.l0] at H
      by_cases c3 : x6_1 < (l0.length : Int)
      · rw [if_pos c3] at H
        have c3b0 : decide (x6_1 < (l0.length : Int)) = true := decide_eq_true c3
        clear c3
        by_cases c4 : 0 ≤ x6_1
        · rw [if_pos c4] at H
          have c4b0 : decide (0 ≤ x6_1) = true := decide_eq_true c4
          clear c4
          replace H := Option.bind_eq_some_iff.mp H
          obtain ⟨t176, A50, H⟩ := H
          replace H : (porterref22_Play.l0 k1 l0 l1 t176 (wrap64 (x6_1 + 1))) = some r := H
          have A5 := Aside0.mk A50
          clear A50
          have H' := Aside0.mk H
          clear H
          have p175 : 0 ≤ (x6_1 : Int) := of_decide_eq_true (by first | (with_reducible assumption) | assumption)
          have q175 : x6_1 < (l0.length : Int) := of_decide_eq_true (by first | (with_reducible assumption) | assumption)
          obtain ⟨ad175, e175, hx175_0, hx175_1, hx175_2⟩ := at_T25 HR0.out x6_1 p175 q175
          cases e175
          replace hx175_0 := (HB.out.cell (World.block_lt_of_cell? w _ hx175_0)).trans hx175_0
          replace hx175_1 := (HB.out.cell (World.block_lt_of_cell? w _ hx175_1)).trans hx175_1
          replace hx175_2 := (HB.out.cell (World.block_lt_of_cell? w _ hx175_2)).trans hx175_2
          replace p175 := eq_true p175
          replace q175 := eq_true q175
          obtain ⟨Ao6, co6, eo6⟩ := Kd.R_slice HO_5.out
          subst eo6
          go_wp2_with (first | (go_at_call 30; (with_reducible refine (porterref05_With.calls k1 (fun k_ => some k_ = (.slice Ao6 x5_1.length co6 : Value).ownBlock) (.slice Ao6 x5_1.length co6) x5_1 ((rd_T25 l0 x6_1).f0) ((rd_T25 l0 x6_1).f1) ((rd_T25 l0 x6_1).f2) t176 w _ ?side1 ?side2 A5.out).mono ?_); (case side1 => repeat (first | (with_reducible first | exact HB.out | apply below_alloc | apply pw_below_drewN | apply below_drew1) | exact HB.out)); (case side2 => exact Kd.R_tight rfl HO_5.out); rintro e w7 ⟨v177, rfl, ho0, hb, hkp⟩; have n0_ := Aside0.mk (Kd.R_mono (ok' := fun k_ => True) ho0 (fun k_ hk_ => trivial)); have n1_ := Aside0.mk (hb); clear HB; clear HO_5; have HO178 := n0_; have HB := n1_; clear n0_ n1_; (try clear hb); (try clear hkp); (try clear ho0)))
          repeat (go_quiet (first | (go_at_call 30; (with_reducible refine (porterref05_With.calls k1 (fun k_ => some k_ = (.slice Ao6 x5_1.length co6 : Value).ownBlock) (.slice Ao6 x5_1.length co6) x5_1 ((rd_T25 l0 x6_1).f0) ((rd_T25 l0 x6_1).f1) ((rd_T25 l0 x6_1).f2) t176 w _ ?side1 ?side2 A5.out).mono ?_); (case side1 => repeat (first | (with_reducible first | exact HB.out | apply below_alloc | apply pw_below_drewN | apply below_drew1) | exact HB.out)); (case side2 => exact Kd.R_tight rfl HO_5.out); rintro e w7 ⟨v177, rfl, ho0, hb, hkp⟩; have n0_ := Aside0.mk (Kd.R_mono (ok' := fun k_ => True) ho0 (fun k_ hk_ => trivial)); have n1_ := Aside0.mk (hb); clear HB; clear HO_5; have HO178 := n0_; have HB := n1_; clear n0_ n1_; (try clear hb); (try clear hkp); (try clear ho0))); try go_wp2_with (first | (go_at_call 30; (with_reducible refine (porterref05_With.calls k1 (fun k_ => some k_ = (.slice Ao6 x5_1.length co6 : Value).ownBlock) (.slice Ao6 x5_1.length co6) x5_1 ((rd_T25 l0 x6_1).f0) ((rd_T25 l0 x6_1).f1) ((rd_T25 l0 x6_1).f2) t176 w _ ?side1 ?side2 A5.out).mono ?_); (case side1 => repeat (first | (with_reducible first | exact HB.out | apply below_alloc | apply pw_below_drewN | apply below_drew1) | exact HB.out)); (case side2 => exact Kd.R_tight rfl HO_5.out); rintro e w7 ⟨v177, rfl, ho0, hb, hkp⟩; have n0_ := Aside0.mk (Kd.R_mono (ok' := fun k_ => True) ho0 (fun k_ hk_ => trivial)); have n1_ := Aside0.mk (hb); clear HB; clear HO_5; have HO178 := n0_; have HB := n1_; clear n0_ n1_; (try clear hb); (try clear hkp); (try clear ho0))))
          go_roundg k1
          case measure => have := HK1.out; omega
          case rel => exact ⟨(t176), (wrap64 (x6_1 + 1)), (by first | rfl | (simp; done) | (simp [*]; done)), H', ⟨by have := HK1.out; omega⟩, ⟨by (with_reducible repeat (first | apply Kd.R_alloc | apply Kd.R_drewN | apply Kd.R_drew)); exact HO178.out⟩, ⟨by repeat (first | (with_reducible first | exact HB.out | apply below_alloc | apply pw_below_drewN | apply below_drew1) | exact HB.out)⟩⟩
        · rw [if_neg c4] at H
          exact absurd H (by simp)
      · rw [if_neg c3] at H
        have c3b0 : decide (x6_1 < (l0.length : Int)) = false := decide_eq_false c3
        clear c3
        have H' := Aside0.mk H
        clear H
        go_wp2
        repeat (go_quiet (fail); try go_wp2)
        go_loopg [5, 7] k1 (fun kq v5 v7 w' => ∃ (x5_2 : List (S25)) (x7_2 : Int), v7 = .int .i64 x7_2 ∧ Aside0 (porterref22_Play.l1 kq l1 x5_2 x7_2 = some r) ∧ Aside0 (kq ≤ k1) ∧ Aside0 (Kd.R k25 25 w' w.heap.size (fun _ => True) v5 x5_2) ∧ Aside0 (Below w.heap.size w w'))
        case atStart => exact ⟨(x5_1), (0), (by first | rfl | (simp; done) | (simp [*]; done)), H', ⟨Nat.le_refl _⟩, ⟨by (with_reducible repeat (first | apply Kd.R_alloc | apply Kd.R_drewN | apply Kd.R_drew)); exact HO_5.out⟩, ⟨by repeat (first | (with_reducible first | exact HB.out | apply below_alloc | apply pw_below_drewN | apply below_drew1) | exact HB.out)⟩⟩
        case round =>
          clear H'
          try clear c1
          try clear p1
          try clear q1
          try clear hx1
          try clear p2
          try clear c3
          try clear c3b0
          try clear c4
          try clear c4b0
          try clear p6
          try clear hx175_0
          try clear hx175_1
          try clear hx175_2
          try clear p175
          try clear p2
          try clear q175
          obtain ⟨x5_2, x7_2, rfl, HA, HK2, HO_5, HB⟩ := hrel
          cases gk with
          | zero => exact absurd HA.out (by simp [porterref22_Play.l1])
          | succ k2 =>
            have H := HA.out
            clear HA
            simp only [porterref22_Play.l1] at H
            by_cases c8 : x7_2 < (l1.length : Int)
            · rw [if_pos c8] at H
              have c8b0 : decide (x7_2 < (l1.length : Int)) = true := decide_eq_true c8
              clear c8
              by_cases c9 : 0 ≤ x7_2
              · rw [if_pos c9] at H
                have c9b0 : decide (0 ≤ x7_2) = true := decide_eq_true c9
                clear c9
                obtain ⟨bq10, hbq10⟩ : ∃ b_ : Bool, b_ = ((rd_T65 l1 x7_2).f1) := ⟨_, rfl⟩
                replace H : (if bq10 = true then (porterref22_Play.l2 k2 l1 x5_2 x7_2 ([] : List (S25)) 0) else ((porterref05_With.f k2 x5_2 ((rd_T65 l1 x7_2).f2.f0) ((rd_T65 l1 x7_2).f2.f1) ((rd_T65 l1 x7_2).f2.f2)).bind fun t187 => (porterref22_Play.l1 k2 l1 t187 (wrap64 (x7_2 + 1))))) = some r := by rw [← hbq10] at H; exact H
                have Nbq10 := Aside0.mk hbq10
                clear hbq10
                by_cases c11 : bq10 = true
                · subst c11
                  have H1 : (porterref22_Play.l2 k2 l1 x5_2 x7_2 ([] : List (S25)) 0) = some r := by rw [if_pos rfl] at H; exact H
                  clear H
                  have H := H1
                  clear H1
                  have H' := Aside0.mk H
                  clear H
                  have p179 : 0 ≤ (x7_2 : Int) := of_decide_eq_true (by first | (with_reducible assumption) | assumption)
                  have q179 : x7_2 < (l1.length : Int) := of_decide_eq_true (by first | (with_reducible assumption) | assumption)
                  obtain ⟨ad179, e179, hx179_0, hx179_1, hx179_2, hx179_3, hx179_4⟩ := at_T65 HR1.out x7_2 p179 q179
                  (try rw [← Nbq10.out] at hx179_1)
                  cases e179
                  replace hx179_0 := (HB.out.cell (World.block_lt_of_cell? w _ hx179_0)).trans hx179_0
                  replace hx179_1 := (HB.out.cell (World.block_lt_of_cell? w _ hx179_1)).trans hx179_1
                  replace hx179_2 := (HB.out.cell (World.block_lt_of_cell? w _ hx179_2)).trans hx179_2
                  replace hx179_3 := (HB.out.cell (World.block_lt_of_cell? w _ hx179_3)).trans hx179_3
                  replace hx179_4 := (HB.out.cell (World.block_lt_of_cell? w _ hx179_4)).trans hx179_4
                  replace p179 := eq_true p179
                  replace q179 := eq_true q179
                  go_wp2
                  repeat (go_quiet (fail); try go_wp2)
                  go_loopg [8, 9] k2 (fun kq v8 v9 w' => ∃ (x8_3 : List (S25)) (x9_3 : Int), v9 = .int .i64 x9_3 ∧ Aside0 (porterref22_Play.l2 kq l1 x5_2 x7_2 x8_3 x9_3 = some r) ∧ Aside0 (kq ≤ k2) ∧ Aside0 (Kd.R k25 25 w' w.heap.size (fun k_ => some k_ ≠ (v8 : Value).ownBlock) u5 x5_2) ∧ Aside0 (Kd.R k25 25 w' w.heap.size (fun k_ => some k_ ≠ (u5 : Value).ownBlock) v8 x8_3) ∧ Aside0 (Below w.heap.size w w'))
                  case atStart => exact ⟨(([] : List (S25))), (0), (by first | rfl | (simp; done) | (simp [*]; done)), H', ⟨Nat.le_refl _⟩, ⟨by (with_reducible repeat (first | apply Kd.R_alloc | apply Kd.R_drewN | apply Kd.R_drew)); exact Kd.R_mono HO_5.out (fun _ hk => (by simp [Value.ownBlock]))⟩, ⟨by first | exact Kd.R_nil _ _ _ _ _ | exact Kd.N_nil _ _ _ _ _ | exact Kd.V_nil _ _ _ _ _ | exact Kd.Q_nil _ _ _ _ _ | exact Kd.S_nil _ _ _ _ _⟩, ⟨by repeat (first | (with_reducible first | exact HB.out | apply below_alloc | apply pw_below_drewN | apply below_drew1) | exact HB.out)⟩⟩
                  case round =>
                    clear H'
                    try clear c1
                    try clear p1
                    try clear q1
                    try clear hx1
                    try clear p2
                    try clear c3
                    try clear c3b0
                    try clear c4
                    try clear c4b0
                    try clear p6
                    try clear c8
                    try clear c8b0
                    try clear c9
                    try clear c9b0
                    try clear q10
                    try clear c11
                    try clear hx175_0
                    try clear hx175_1
                    try clear hx175_2
                    try clear hx179_0
                    try clear hx179_1
                    try clear hx179_2
                    try clear hx179_3
                    try clear hx179_4
                    try clear p1
                    try clear p175
                    try clear p179
                    try clear p2
                    try clear p6
                    try clear q1
                    try clear q175
                    try clear q179
                    obtain ⟨x8_3, x9_3, rfl, HA, HK3, HO_5, HO_8, HB⟩ := hrel
                    cases gk with
                    | zero => exact absurd HA.out (by simp [porterref22_Play.l2])
                    | succ k3 =>
                      have H := HA.out
                      clear HA
                      simp only [porterref22_Play.l2] at H
                      by_cases c12 : x9_3 < (x5_2.length : Int)
                      · rw [if_pos c12] at H
                        have c12b0 : decide (x9_3 < (x5_2.length : Int)) = true := decide_eq_true c12
                        clear c12
                        by_cases c13 : 0 ≤ x9_3
                        · rw [if_pos c13] at H
                          have c13b0 : decide (0 ≤ x9_3) = true := decide_eq_true c13
                          clear c13
                          by_cases c14 : 0 ≤ x7_2
                          · rw [if_pos c14] at H
                            have c14b0 : decide (0 ≤ x7_2) = true := decide_eq_true c14
                            clear c14
                            by_cases c15 : x7_2 < (l1.length : Int)
                            · rw [if_pos c15] at H
                              have c15b0 : decide (x7_2 < (l1.length : Int)) = true := decide_eq_true c15
                              clear c15
                              by_cases c16 : (!((((rd_T25 x5_2 x9_3).f0).toList) == (((rd_T65 l1 x7_2).f2.f0).toList)) || (!((((rd_T25 x5_2 x9_3).f1).toList) == (((rd_T65 l1 x7_2).f2.f1).toList)) || (!((((rd_T25 x5_2 x9_3).f2).toList) == (((rd_T65 l1 x7_2).f2.f2).toList))))) = true
                              · rw [if_pos c16] at H
                                have c16b0 : (!((((rd_T25 x5_2 x9_3).f0).toList) == (((rd_T65 l1 x7_2).f2.f0).toList)) || (!((((rd_T25 x5_2 x9_3).f1).toList) == (((rd_T65 l1 x7_2).f2.f1).toList)) || (!((((rd_T25 x5_2 x9_3).f2).toList) == (((rd_T65 l1 x7_2).f2.f2).toList))))) = true := c16
                                clear c16
                                by_cases c17 : x8_3.length < 2932031007402
                                · rw [if_pos c17] at H
                                  have LMc17 := Aside0.mk c17
                                  clear c17
                                  obtain ⟨y183, hy183⟩ : ∃ y_ : List (S25), y_ = (x8_3 ++ [(⟨(rd_T25 x5_2 x9_3).f0, (rd_T25 x5_2 x9_3).f1, (rd_T25 x5_2 x9_3).f2⟩ : S25)]) := ⟨_, rfl⟩
                                  replace H : (porterref22_Play.l2 k3 l1 x5_2 x7_2 y183 (wrap64 (x9_3 + 1))) = some r := by first | (rw [hy183]; with_reducible exact H) | (have H2_ := (Option.bind_some _ _).symm.trans H; rw [hy183]; with_reducible exact H2_) | (have H2_ := (Option.bind_some _ _).symm.trans H; with_reducible exact H2_) | with_reducible exact H | (rw [hy183]; exact H) | exact H
                                  have Ny183 := Aside0.mk hy183
                                  clear hy183
                                  have H' := Aside0.mk H
                                  clear H
                                  obtain ⟨Ao18, co18, eo18⟩ := Kd.R_slice HO_5.out
                                  subst eo18
                                  have p180 : 0 ≤ (x9_3 : Int) := of_decide_eq_true (by first | (with_reducible assumption) | assumption)
                                  have q180 : x9_3 < (x5_2.length : Int) := of_decide_eq_true (by first | (with_reducible assumption) | assumption)
                                  obtain ⟨ad180, e180, hx180_0, hx180_1, hx180_2⟩ := at_T25 (Kd.R_reads' HO_5.out).2.2 x9_3 p180 q180
                                  cases e180
                                  replace p180 := eq_true p180
                                  replace q180 := eq_true q180
                                  have p181 : 0 ≤ (x7_2 : Int) := of_decide_eq_true (by first | (with_reducible assumption) | assumption)
                                  have q181 : x7_2 < (l1.length : Int) := of_decide_eq_true (by first | (with_reducible assumption) | assumption)
                                  obtain ⟨ad181, e181, hx181_0, hx181_1, hx181_2, hx181_3, hx181_4⟩ := at_T65 HR1.out x7_2 p181 q181
                                  (try rw [← Nbq10.out] at hx181_1)
                                  obtain rfl : ad179 = ad181 := (by injection e181)
                                  replace hx181_0 := (HB.out.cell (World.block_lt_of_cell? w _ hx181_0)).trans hx181_0
                                  replace hx181_1 := (HB.out.cell (World.block_lt_of_cell? w _ hx181_1)).trans hx181_1
                                  replace hx181_2 := (HB.out.cell (World.block_lt_of_cell? w _ hx181_2)).trans hx181_2
                                  replace hx181_3 := (HB.out.cell (World.block_lt_of_cell? w _ hx181_3)).trans hx181_3
                                  replace hx181_4 := (HB.out.cell (World.block_lt_of_cell? w _ hx181_4)).trans hx181_4
                                  replace p181 := eq_true p181
                                  replace q181 := eq_true q181
                                  have p182 : 0 ≤ (x9_3 : Int) := of_decide_eq_true (by first | (with_reducible assumption) | assumption)
                                  have q182 : x9_3 < (x5_2.length : Int) := of_decide_eq_true (by first | (with_reducible assumption) | assumption)
                                  obtain ⟨ad182, e182, hx182_0, hx182_1, hx182_2⟩ := at_T25 (Kd.R_reads' HO_5.out).2.2 x9_3 p182 q182
                                  obtain rfl : ad180 = ad182 := (by injection e182)
                                  replace p182 := eq_true p182
                                  replace q182 := eq_true q182
                                  go_wp2_with (first | ((with_reducible refine gate_builtin (b := .append) (xs := #[.tmp 49, .tmp 54]) rfl ?_); at_builtin; refine Kd.R_append k25 (w0 := w) w.heap.size rfl (.tmp 49) (.tmp 54) 34 25 (.agg #[(.string ⟨#[]⟩), (.string ⟨#[]⟩), (.string ⟨#[]⟩)]) 48 rfl Try.underlying34 info25 rfl (by decide) (by omega) u8 x8_3 (⟨(rd_T25 x5_2 x9_3).f0, (rd_T25 x5_2 x9_3).f1, (rd_T25 x5_2 x9_3).f2⟩ : S25) [.string ((rd_T25 x5_2 x9_3).f0), .string ((rd_T25 x5_2 x9_3).f1), .string ((rd_T25 x5_2 x9_3).f2)] (fun k_ => some k_ ≠ (.slice (some ad180) x5_2.length co18 : Value).ownBlock) (fun _ => False) rfl rfl ?aP (fun _ hk => hk.elim) ?aF ?aO ?aB ?aS ?aL ?_; (case aP => exact k25_mkM _ _ _ (⟨(rd_T25 x5_2 x9_3).f0, (rd_T25 x5_2 x9_3).f1, (rd_T25 x5_2 x9_3).f2⟩ : S25)); (case aB => exact (by repeat (first | (with_reducible first | exact HB.out | apply below_alloc | apply pw_below_drewN | apply below_drew1) | exact HB.out))); (case aF => exact (fun k_ hk => Kd.fresh' (Kd.R_lt (by (with_reducible repeat (first | apply Kd.R_alloc | apply Kd.R_drewN | apply Kd.R_drew)); exact HO_5.out)) k_ hk)); (case aO => exact (by (with_reducible repeat (first | apply Kd.R_alloc | apply Kd.R_drewN | apply Kd.R_drew)); exact HO_8.out)); (case aS => exact (below_size (by repeat (first | (with_reducible first | exact HB.out | apply below_alloc | apply pw_below_drewN | apply below_drew1) | exact HB.out)))); (case aL => have := LMc17.out; omega); intro v184 w19 ho hb hg hat; rw [← Ny183.out] at ho; have n0_ := Aside0.mk (Kd.R_after (ok := (fun _ => True)) (by (with_reducible repeat (first | apply Kd.R_alloc | apply Kd.R_drewN | apply Kd.R_drew)); exact Kd.R_mono HO_5.out (fun _ hk => ⟨trivial, hk⟩)) hg hat); have n1_ := Aside0.mk (hb); have n2_ := Aside0.mk (ho); clear HO_5; clear HB; clear HO_8; have HO_5 := n0_; have HB := n1_; have HO185 := n2_; clear n0_ n1_ n2_; clear ho hb hg hat))
                                  repeat (go_quiet (first | ((with_reducible refine gate_builtin (b := .append) (xs := #[.tmp 49, .tmp 54]) rfl ?_); at_builtin; refine Kd.R_append k25 (w0 := w) w.heap.size rfl (.tmp 49) (.tmp 54) 34 25 (.agg #[(.string ⟨#[]⟩), (.string ⟨#[]⟩), (.string ⟨#[]⟩)]) 48 rfl Try.underlying34 info25 rfl (by decide) (by omega) u8 x8_3 (⟨(rd_T25 x5_2 x9_3).f0, (rd_T25 x5_2 x9_3).f1, (rd_T25 x5_2 x9_3).f2⟩ : S25) [.string ((rd_T25 x5_2 x9_3).f0), .string ((rd_T25 x5_2 x9_3).f1), .string ((rd_T25 x5_2 x9_3).f2)] (fun k_ => some k_ ≠ (.slice (some ad180) x5_2.length co18 : Value).ownBlock) (fun _ => False) rfl rfl ?aP (fun _ hk => hk.elim) ?aF ?aO ?aB ?aS ?aL ?_; (case aP => exact k25_mkM _ _ _ (⟨(rd_T25 x5_2 x9_3).f0, (rd_T25 x5_2 x9_3).f1, (rd_T25 x5_2 x9_3).f2⟩ : S25)); (case aB => exact (by repeat (first | (with_reducible first | exact HB.out | apply below_alloc | apply pw_below_drewN | apply below_drew1) | exact HB.out))); (case aF => exact (fun k_ hk => Kd.fresh' (Kd.R_lt (by (with_reducible repeat (first | apply Kd.R_alloc | apply Kd.R_drewN | apply Kd.R_drew)); exact HO_5.out)) k_ hk)); (case aO => exact (by (with_reducible repeat (first | apply Kd.R_alloc | apply Kd.R_drewN | apply Kd.R_drew)); exact HO_8.out)); (case aS => exact (below_size (by repeat (first | (with_reducible first | exact HB.out | apply below_alloc | apply pw_below_drewN | apply below_drew1) | exact HB.out)))); (case aL => have := LMc17.out; omega); intro v184 w19 ho hb hg hat; rw [← Ny183.out] at ho; have n0_ := Aside0.mk (Kd.R_after (ok := (fun _ => True)) (by (with_reducible repeat (first | apply Kd.R_alloc | apply Kd.R_drewN | apply Kd.R_drew)); exact Kd.R_mono HO_5.out (fun _ hk => ⟨trivial, hk⟩)) hg hat); have n1_ := Aside0.mk (hb); have n2_ := Aside0.mk (ho); clear HO_5; clear HB; clear HO_8; have HO_5 := n0_; have HB := n1_; have HO185 := n2_; clear n0_ n1_ n2_; clear ho hb hg hat)); try go_wp2_with (first | ((with_reducible refine gate_builtin (b := .append) (xs := #[.tmp 49, .tmp 54]) rfl ?_); at_builtin; refine Kd.R_append k25 (w0 := w) w.heap.size rfl (.tmp 49) (.tmp 54) 34 25 (.agg #[(.string ⟨#[]⟩), (.string ⟨#[]⟩), (.string ⟨#[]⟩)]) 48 rfl Try.underlying34 info25 rfl (by decide) (by omega) u8 x8_3 (⟨(rd_T25 x5_2 x9_3).f0, (rd_T25 x5_2 x9_3).f1, (rd_T25 x5_2 x9_3).f2⟩ : S25) [.string ((rd_T25 x5_2 x9_3).f0), .string ((rd_T25 x5_2 x9_3).f1), .string ((rd_T25 x5_2 x9_3).f2)] (fun k_ => some k_ ≠ (.slice (some ad180) x5_2.length co18 : Value).ownBlock) (fun _ => False) rfl rfl ?aP (fun _ hk => hk.elim) ?aF ?aO ?aB ?aS ?aL ?_; (case aP => exact k25_mkM _ _ _ (⟨(rd_T25 x5_2 x9_3).f0, (rd_T25 x5_2 x9_3).f1, (rd_T25 x5_2 x9_3).f2⟩ : S25)); (case aB => exact (by repeat (first | (with_reducible first | exact HB.out | apply below_alloc | apply pw_below_drewN | apply below_drew1) | exact HB.out))); (case aF => exact (fun k_ hk => Kd.fresh' (Kd.R_lt (by (with_reducible repeat (first | apply Kd.R_alloc | apply Kd.R_drewN | apply Kd.R_drew)); exact HO_5.out)) k_ hk)); (case aO => exact (by (with_reducible repeat (first | apply Kd.R_alloc | apply Kd.R_drewN | apply Kd.R_drew)); exact HO_8.out)); (case aS => exact (below_size (by repeat (first | (with_reducible first | exact HB.out | apply below_alloc | apply pw_below_drewN | apply below_drew1) | exact HB.out)))); (case aL => have := LMc17.out; omega); intro v184 w19 ho hb hg hat; rw [← Ny183.out] at ho; have n0_ := Aside0.mk (Kd.R_after (ok := (fun _ => True)) (by (with_reducible repeat (first | apply Kd.R_alloc | apply Kd.R_drewN | apply Kd.R_drew)); exact Kd.R_mono HO_5.out (fun _ hk => ⟨trivial, hk⟩)) hg hat); have n1_ := Aside0.mk (hb); have n2_ := Aside0.mk (ho); clear HO_5; clear HB; clear HO_8; have HO_5 := n0_; have HB := n1_; have HO185 := n2_; clear n0_ n1_ n2_; clear ho hb hg hat)))
                                  go_roundg k3
                                  case measure => have := HK1.out; have := HK2.out; have := HK3.out; omega
                                  case rel => exact ⟨(y183), (wrap64 (x9_3 + 1)), (by first | rfl | (simp; done) | (simp [*]; done)), H', ⟨by have := HK1.out; have := HK2.out; have := HK3.out; omega⟩, ⟨by (with_reducible repeat (first | apply Kd.R_alloc | apply Kd.R_drewN | apply Kd.R_drew)); exact Kd.R_mono HO_5.out (fun _ hk => hk.2)⟩, ⟨by (with_reducible repeat (first | apply Kd.R_alloc | apply Kd.R_drewN | apply Kd.R_drew)); exact HO185.out⟩, ⟨by repeat (first | (with_reducible first | exact HB.out | apply below_alloc | apply pw_below_drewN | apply below_drew1) | exact HB.out)⟩⟩
                                · rw [if_neg c17] at H
                                  exact absurd H (by simp)
                              · rw [if_neg c16] at H
                                have c16b0 : (!((((rd_T25 x5_2 x9_3).f0).toList) == (((rd_T65 l1 x7_2).f2.f0).toList)) || (!((((rd_T25 x5_2 x9_3).f1).toList) == (((rd_T65 l1 x7_2).f2.f1).toList)) || (!((((rd_T25 x5_2 x9_3).f2).toList) == (((rd_T65 l1 x7_2).f2.f2).toList))))) = false := by simpa using c16
                                clear c16
                                have H' := Aside0.mk H
                                clear H
                                obtain ⟨Ao20, co20, eo20⟩ := Kd.R_slice HO_5.out
                                subst eo20
                                have p180 : 0 ≤ (x9_3 : Int) := of_decide_eq_true (by first | (with_reducible assumption) | assumption)
                                have q180 : x9_3 < (x5_2.length : Int) := of_decide_eq_true (by first | (with_reducible assumption) | assumption)
                                obtain ⟨ad180, e180, hx180_0, hx180_1, hx180_2⟩ := at_T25 (Kd.R_reads' HO_5.out).2.2 x9_3 p180 q180
                                cases e180
                                replace p180 := eq_true p180
                                replace q180 := eq_true q180
                                have p181 : 0 ≤ (x7_2 : Int) := of_decide_eq_true (by first | (with_reducible assumption) | assumption)
                                have q181 : x7_2 < (l1.length : Int) := of_decide_eq_true (by first | (with_reducible assumption) | assumption)
                                obtain ⟨ad181, e181, hx181_0, hx181_1, hx181_2, hx181_3, hx181_4⟩ := at_T65 HR1.out x7_2 p181 q181
                                (try rw [← Nbq10.out] at hx181_1)
                                obtain rfl : ad179 = ad181 := (by injection e181)
                                replace hx181_0 := (HB.out.cell (World.block_lt_of_cell? w _ hx181_0)).trans hx181_0
                                replace hx181_1 := (HB.out.cell (World.block_lt_of_cell? w _ hx181_1)).trans hx181_1
                                replace hx181_2 := (HB.out.cell (World.block_lt_of_cell? w _ hx181_2)).trans hx181_2
                                replace hx181_3 := (HB.out.cell (World.block_lt_of_cell? w _ hx181_3)).trans hx181_3
                                replace hx181_4 := (HB.out.cell (World.block_lt_of_cell? w _ hx181_4)).trans hx181_4
                                replace p181 := eq_true p181
                                replace q181 := eq_true q181
                                go_wp2
                                repeat (go_quiet (fail); try go_wp2)
                                go_roundg k3
                                case measure => have := HK1.out; have := HK2.out; have := HK3.out; omega
                                case rel => exact ⟨(x8_3), (wrap64 (x9_3 + 1)), (by first | rfl | (simp; done) | (simp [*]; done)), H', ⟨by have := HK1.out; have := HK2.out; have := HK3.out; omega⟩, ⟨by (with_reducible repeat (first | apply Kd.R_alloc | apply Kd.R_drewN | apply Kd.R_drew)); exact HO_5.out⟩, ⟨by (with_reducible repeat (first | apply Kd.R_alloc | apply Kd.R_drewN | apply Kd.R_drew)); exact HO_8.out⟩, ⟨by repeat (first | (with_reducible first | exact HB.out | apply below_alloc | apply pw_below_drewN | apply below_drew1) | exact HB.out)⟩⟩
                            · rw [if_neg c15] at H
                              exact absurd H (by simp)
                          · rw [if_neg c14] at H
                            exact absurd H (by simp)
                        · rw [if_neg c13] at H
                          exact absurd H (by simp)
                      · rw [if_neg c12] at H
                        have c12b0 : decide (x9_3 < (x5_2.length : Int)) = false := decide_eq_false c12
                        clear c12
                        have H' := Aside0.mk H
                        clear H
                        obtain ⟨Ao21, co21, eo21⟩ := Kd.R_slice HO_5.out
                        subst eo21
                        go_wp2
                        repeat (go_quiet (fail); try go_wp2)
                        go_roundg k3
                        case measure => have := HK1.out; have := HK2.out; have := HK3.out; omega
                        case rel => exact ⟨(x8_3), (wrap64 (x7_2 + 1)), (by first | rfl | (simp; done) | (simp [*]; done)), H', ⟨by have := HK1.out; have := HK2.out; have := HK3.out; omega⟩, ⟨by (with_reducible repeat (first | apply Kd.R_alloc | apply Kd.R_drewN | apply Kd.R_drew)); exact Kd.R_mono HO_8.out (fun _ hk => trivial)⟩, ⟨by repeat (first | (with_reducible first | exact HB.out | apply below_alloc | apply pw_below_drewN | apply below_drew1) | exact HB.out)⟩⟩
                · replace c11 := Bool.eq_false_iff.mpr c11
                  subst c11
                  have H1 : ((porterref05_With.f k2 x5_2 ((rd_T65 l1 x7_2).f2.f0) ((rd_T65 l1 x7_2).f2.f1) ((rd_T65 l1 x7_2).f2.f2)).bind fun t187 => (porterref22_Play.l1 k2 l1 t187 (wrap64 (x7_2 + 1)))) = some r := by rw [if_neg (show ¬ (false = true) by decide)] at H; exact H
                  clear H
                  have H := H1
                  clear H1
                  replace H := Option.bind_eq_some_iff.mp H
                  obtain ⟨t187, A220, H⟩ := H
                  replace H : (porterref22_Play.l1 k2 l1 t187 (wrap64 (x7_2 + 1))) = some r := H
                  have A22 := Aside0.mk A220
                  clear A220
                  have H' := Aside0.mk H
                  clear H
                  have p179 : 0 ≤ (x7_2 : Int) := of_decide_eq_true (by first | (with_reducible assumption) | assumption)
                  have q179 : x7_2 < (l1.length : Int) := of_decide_eq_true (by first | (with_reducible assumption) | assumption)
                  obtain ⟨ad179, e179, hx179_0, hx179_1, hx179_2, hx179_3, hx179_4⟩ := at_T65 HR1.out x7_2 p179 q179
                  (try rw [← Nbq10.out] at hx179_1)
                  cases e179
                  replace hx179_0 := (HB.out.cell (World.block_lt_of_cell? w _ hx179_0)).trans hx179_0
                  replace hx179_1 := (HB.out.cell (World.block_lt_of_cell? w _ hx179_1)).trans hx179_1
                  replace hx179_2 := (HB.out.cell (World.block_lt_of_cell? w _ hx179_2)).trans hx179_2
                  replace hx179_3 := (HB.out.cell (World.block_lt_of_cell? w _ hx179_3)).trans hx179_3
                  replace hx179_4 := (HB.out.cell (World.block_lt_of_cell? w _ hx179_4)).trans hx179_4
                  replace p179 := eq_true p179
                  replace q179 := eq_true q179
                  have p186 : 0 ≤ (x7_2 : Int) := of_decide_eq_true (by first | (with_reducible assumption) | assumption)
                  have q186 : x7_2 < (l1.length : Int) := of_decide_eq_true (by first | (with_reducible assumption) | assumption)
                  obtain ⟨ad186, e186, hx186_0, hx186_1, hx186_2, hx186_3, hx186_4⟩ := at_T65 HR1.out x7_2 p186 q186
                  (try rw [← Nbq10.out] at hx186_1)
                  obtain rfl : ad179 = ad186 := (by injection e186)
                  replace hx186_0 := (HB.out.cell (World.block_lt_of_cell? w _ hx186_0)).trans hx186_0
                  replace hx186_1 := (HB.out.cell (World.block_lt_of_cell? w _ hx186_1)).trans hx186_1
                  replace hx186_2 := (HB.out.cell (World.block_lt_of_cell? w _ hx186_2)).trans hx186_2
                  replace hx186_3 := (HB.out.cell (World.block_lt_of_cell? w _ hx186_3)).trans hx186_3
                  replace hx186_4 := (HB.out.cell (World.block_lt_of_cell? w _ hx186_4)).trans hx186_4
                  replace p186 := eq_true p186
                  replace q186 := eq_true q186
                  obtain ⟨Ao23, co23, eo23⟩ := Kd.R_slice HO_5.out
                  subst eo23
                  go_wp2_with (first | (go_at_call 30; (with_reducible refine (porterref05_With.calls k2 (fun k_ => some k_ = (.slice Ao23 x5_2.length co23 : Value).ownBlock) (.slice Ao23 x5_2.length co23) x5_2 ((rd_T65 l1 x7_2).f2.f0) ((rd_T65 l1 x7_2).f2.f1) ((rd_T65 l1 x7_2).f2.f2) t187 w _ ?side1 ?side2 A22.out).mono ?_); (case side1 => repeat (first | (with_reducible first | exact HB.out | apply below_alloc | apply pw_below_drewN | apply below_drew1) | exact HB.out)); (case side2 => exact Kd.R_tight rfl HO_5.out); rintro e w24 ⟨v188, rfl, ho0, hb, hkp⟩; have n0_ := Aside0.mk (Kd.R_mono (ok' := fun k_ => True) ho0 (fun k_ hk_ => trivial)); have n1_ := Aside0.mk (hb); clear HB; clear HO_5; have HO189 := n0_; have HB := n1_; clear n0_ n1_; (try clear hb); (try clear hkp); (try clear ho0)))
                  repeat (go_quiet (first | (go_at_call 30; (with_reducible refine (porterref05_With.calls k2 (fun k_ => some k_ = (.slice Ao23 x5_2.length co23 : Value).ownBlock) (.slice Ao23 x5_2.length co23) x5_2 ((rd_T65 l1 x7_2).f2.f0) ((rd_T65 l1 x7_2).f2.f1) ((rd_T65 l1 x7_2).f2.f2) t187 w _ ?side1 ?side2 A22.out).mono ?_); (case side1 => repeat (first | (with_reducible first | exact HB.out | apply below_alloc | apply pw_below_drewN | apply below_drew1) | exact HB.out)); (case side2 => exact Kd.R_tight rfl HO_5.out); rintro e w24 ⟨v188, rfl, ho0, hb, hkp⟩; have n0_ := Aside0.mk (Kd.R_mono (ok' := fun k_ => True) ho0 (fun k_ hk_ => trivial)); have n1_ := Aside0.mk (hb); clear HB; clear HO_5; have HO189 := n0_; have HB := n1_; clear n0_ n1_; (try clear hb); (try clear hkp); (try clear ho0))); try go_wp2_with (first | (go_at_call 30; (with_reducible refine (porterref05_With.calls k2 (fun k_ => some k_ = (.slice Ao23 x5_2.length co23 : Value).ownBlock) (.slice Ao23 x5_2.length co23) x5_2 ((rd_T65 l1 x7_2).f2.f0) ((rd_T65 l1 x7_2).f2.f1) ((rd_T65 l1 x7_2).f2.f2) t187 w _ ?side1 ?side2 A22.out).mono ?_); (case side1 => repeat (first | (with_reducible first | exact HB.out | apply below_alloc | apply pw_below_drewN | apply below_drew1) | exact HB.out)); (case side2 => exact Kd.R_tight rfl HO_5.out); rintro e w24 ⟨v188, rfl, ho0, hb, hkp⟩; have n0_ := Aside0.mk (Kd.R_mono (ok' := fun k_ => True) ho0 (fun k_ hk_ => trivial)); have n1_ := Aside0.mk (hb); clear HB; clear HO_5; have HO189 := n0_; have HB := n1_; clear n0_ n1_; (try clear hb); (try clear hkp); (try clear ho0))))
                  go_roundg k2
                  case measure => have := HK1.out; have := HK2.out; omega
                  case rel => exact ⟨(t187), (wrap64 (x7_2 + 1)), (by first | rfl | (simp; done) | (simp [*]; done)), H', ⟨by have := HK1.out; have := HK2.out; omega⟩, ⟨by (with_reducible repeat (first | apply Kd.R_alloc | apply Kd.R_drewN | apply Kd.R_drew)); exact HO189.out⟩, ⟨by repeat (first | (with_reducible first | exact HB.out | apply below_alloc | apply pw_below_drewN | apply below_drew1) | exact HB.out)⟩⟩
              · rw [if_neg c9] at H
                exact absurd H (by simp)
            · rw [if_neg c8] at H
              have c8b0 : decide (x7_2 < (l1.length : Int)) = false := decide_eq_false c8
              clear c8
              obtain rfl := Option.some.inj H
              go_wp2
              repeat (go_quiet (fail); try go_wp2)
              go_ret
              exact ⟨_, by first | rfl | (simp [errW_none, errW_some] <;> rfl) | (simp [*, errW_none, errW_some] <;> rfl), by (with_reducible repeat (first | apply Kd.R_alloc | apply Kd.R_drewN | apply Kd.R_drew)); exact HO_5.out, by repeat (first | (with_reducible first | exact HB.out | apply below_alloc | apply pw_below_drewN | apply below_drew1) | exact HB.out)⟩

/-! ### porterlaw22_plain: function 13 -/
def porterlaw22_plain.l0 : Nat → List (S65) → List (S29) → Int → Int → Option ((List (S65)))
  | 0, _, _, _, _ => none
  | k + 1, x3, x6, x7, x8 => if x8 < x7 then (if 0 ≤ x8 then (if x8 < (x6.length : Int) then (if x3.length < 2199023255552 then (porterlaw22_plain.l0 k (x3 ++ [(⟨(rd_T29 x6 x8).f0, (rd_T29 x6 x8).f1.f0, (⟨(rd_T29 x6 x8).f1.f1.f0, (rd_T29 x6 x8).f1.f1.f1, (rd_T29 x6 x8).f1.f1.f2⟩ : S25)⟩ : S65)]) x6 x7 (wrap64 (x8 + 1))) else (none)) else (none)) else (none)) else (some x3)
def porterlaw22_plain.f (k : Nat) (l0 : List (S29)) : Option ((List (S65))) := porterlaw22_plain.l0 k ([] : List (S65)) l0 (l0.length : Int) 0
theorem porterlaw22_plain.mono_l : ∀ k, (∀ y0 y1 y2 y3, LeO (porterlaw22_plain.l0 k y0 y1 y2 y3) (porterlaw22_plain.l0 (k + 1) y0 y1 y2 y3))
  | 0 => fun _ _ _ _ r h => by simp [porterlaw22_plain.l0] at h
  | k + 1 => by
    have ih0 := porterlaw22_plain.mono_l k
    · intro y0 y1 y2 y3
      unfold porterlaw22_plain.l0
      repeat' first
      | (with_reducible exact ih0 _ _ _ _)
      | (with_reducible exact LeO.refl _)
      | (with_reducible exact LeO.none _)
      | (with_reducible refine LeO.ite ?_ ?_)
      | (with_reducible refine LeO.bind ?_ (fun _ => ?_))
      | exact ih0 _ _ _ _
      | exact LeO.none _
      | refine LeO.ite ?_ ?_
      | refine LeO.bind ?_ (fun _ => ?_)
theorem porterlaw22_plain.mono : ∀ a0 k, LeO (porterlaw22_plain.f k a0) (porterlaw22_plain.f (k + 1) a0) := by
  intro a0 k
  have ih0 := porterlaw22_plain.mono_l k
  unfold porterlaw22_plain.f
  repeat' first
      | (with_reducible exact ih0 _ _ _ _)
      | (with_reducible exact LeO.refl _)
      | (with_reducible exact LeO.none _)
      | (with_reducible refine LeO.ite ?_ ?_)
      | (with_reducible refine LeO.bind ?_ (fun _ => ?_))
      | exact ih0 _ _ _ _
      | exact LeO.none _
      | refine LeO.ite ?_ ?_
      | refine LeO.bind ?_ (fun _ => ?_)
set_option maxHeartbeats 8000000 in
set_option maxRecDepth 100000 in
theorem porterlaw22_plain.calls (k : Nat) (A0 : Option Addr) (c0 : Nat) (l0 : List (S29)) (r : List (S65)) (w : World) (hr0 : Kd.C k29 w A0 l0.length l0) (hc0 : l0.length ≤ c0) (h : porterlaw22_plain.f k l0 = some r) :
    Calls Try.prog 13 #[.slice A0 l0.length c0] w fun e w' => ∃ v0_ : Value, e = .returned (v0_) ∧ Kd.R k65 65 w' w.heap.size (fun _ => True) v0_ r ∧ Below w.heap.size w w' := by
  have hu29 := Try.underlying29
  have hu25 := Try.underlying25
  have hu65 := Try.underlying65
  have HR0 := Aside0.mk hr0
  have HC0 := Aside0.mk hc0
  clear hr0 hc0
  have HB := Aside0.mk (Below.refl w.heap.size w)
  have H : (porterlaw22_plain.l0 k ([] : List (S65)) l0 (l0.length : Int) 0) = some r := h
  clear h
  have H' := Aside0.mk H
  clear H
  go_enter Try.func13, Try.ntmps13
  go_wp2
  go_loopg [3, 8] k (fun kq v3 v8 w' => ∃ (x3_1 : List (S65)) (x8_1 : Int), v8 = .int .i64 x8_1 ∧ Aside0 (porterlaw22_plain.l0 kq x3_1 l0 (l0.length : Int) x8_1 = some r) ∧ Aside0 (kq ≤ k) ∧ Aside0 (Kd.R k65 65 w' w.heap.size (fun _ => True) v3 x3_1) ∧ Aside0 (Below w.heap.size w w'))
  case atStart => exact ⟨(([] : List (S65))), (0), (by first | rfl | (simp; done) | (simp [*]; done)), H', ⟨Nat.le_refl _⟩, ⟨by first | exact Kd.R_nil _ _ _ _ _ | exact Kd.N_nil _ _ _ _ _ | exact Kd.V_nil _ _ _ _ _ | exact Kd.Q_nil _ _ _ _ _ | exact Kd.S_nil _ _ _ _ _⟩, ⟨by repeat (first | (with_reducible first | exact HB.out | apply below_alloc | apply pw_below_drewN | apply below_drew1) | exact HB.out)⟩⟩
  case round =>
    clear H'
    try clear c1
    obtain ⟨x3_1, x8_1, rfl, HA, HK1, HO_3, HB⟩ := hrel
    cases gk with
    | zero => exact absurd HA.out (by simp [porterlaw22_plain.l0])
    | succ k1 =>
      have H := HA.out
      clear HA
      simp only [porterlaw22_plain.l0] at H
      by_cases c2 : x8_1 < (l0.length : Int)
      · rw [if_pos c2] at H
        have c2b0 : decide (x8_1 < (l0.length : Int)) = true := decide_eq_true c2
        clear c2
        by_cases c3 : 0 ≤ x8_1
        · rw [if_pos c3] at H
          have c3b0 : decide (0 ≤ x8_1) = true := decide_eq_true c3
          clear c3
          by_cases c4 : x8_1 < (l0.length : Int)
          · rw [if_pos c4] at H
            have c4b0 : decide (x8_1 < (l0.length : Int)) = true := decide_eq_true c4
            clear c4
            by_cases c5 : x3_1.length < 2199023255552
            · rw [if_pos c5] at H
              have LMc5 := Aside0.mk c5
              clear c5
              obtain ⟨y192, hy192⟩ : ∃ y_ : List (S65), y_ = (x3_1 ++ [(⟨(rd_T29 l0 x8_1).f0, (rd_T29 l0 x8_1).f1.f0, (⟨(rd_T29 l0 x8_1).f1.f1.f0, (rd_T29 l0 x8_1).f1.f1.f1, (rd_T29 l0 x8_1).f1.f1.f2⟩ : S25)⟩ : S65)]) := ⟨_, rfl⟩
              replace H : (porterlaw22_plain.l0 k1 y192 l0 (l0.length : Int) (wrap64 (x8_1 + 1))) = some r := by first | (rw [hy192]; with_reducible exact H) | (have H2_ := (Option.bind_some _ _).symm.trans H; rw [hy192]; with_reducible exact H2_) | (have H2_ := (Option.bind_some _ _).symm.trans H; with_reducible exact H2_) | with_reducible exact H | (rw [hy192]; exact H) | exact H
              have Ny192 := Aside0.mk hy192
              clear hy192
              have H' := Aside0.mk H
              clear H
              have p190 : 0 ≤ (x8_1 : Int) := of_decide_eq_true (by first | (with_reducible assumption) | assumption)
              have q190 : x8_1 < (l0.length : Int) := of_decide_eq_true (by first | (with_reducible assumption) | assumption)
              obtain ⟨ad190, e190, hx190_0, hx190_1, hx190_2, hx190_3, hx190_4⟩ := at_T29 HR0.out x8_1 p190 q190
              cases e190
              replace hx190_0 := (HB.out.cell (World.block_lt_of_cell? w _ hx190_0)).trans hx190_0
              replace hx190_1 := (HB.out.cell (World.block_lt_of_cell? w _ hx190_1)).trans hx190_1
              replace hx190_2 := (HB.out.cell (World.block_lt_of_cell? w _ hx190_2)).trans hx190_2
              replace hx190_3 := (HB.out.cell (World.block_lt_of_cell? w _ hx190_3)).trans hx190_3
              replace hx190_4 := (HB.out.cell (World.block_lt_of_cell? w _ hx190_4)).trans hx190_4
              replace p190 := eq_true p190
              replace q190 := eq_true q190
              go_wp2_with (first | ((with_reducible refine gate_dst (N := 5) rfl ?_); refine box_event ?hg (N := 5) ?hd (cs := #[.int .i64 0, .bool false, .string (⟨#[]⟩ : ByteArray), .string (⟨#[]⟩ : ByteArray), .string (⟨#[]⟩ : ByteArray)]) (t := 29) ?hr ?_; (case hd => rfl); (case hg => rfl); (case hr => first | (go_simp; done) | (go_simp; rfl)); intro gb191 hg w6 hbox hb; have n0_ := Aside0.mk (Kd.R_below (by (with_reducible repeat (first | apply Kd.R_alloc | apply Kd.R_drewN | apply Kd.R_drew)); exact HO_3.out) hb); have n1_ := Aside0.mk (below_step (by repeat (first | (with_reducible first | exact HB.out | apply below_alloc | apply pw_below_drewN | apply below_drew1) | exact HB.out)) hb); have n2_ := Aside0.mk (hbox); have n3_ := Aside0.mk ((by rw [hg]; exact (below_size (by repeat (first | (with_reducible first | exact HB.out | apply below_alloc | apply pw_below_drewN | apply below_drew1) | exact HB.out))) : w.heap.size ≤ gb191)); have n4_ := Aside0.mk ((by rw [hg]; exact (below_size (by repeat (first | (with_reducible first | exact HB.out | apply below_alloc | apply pw_below_drewN | apply below_drew1) | exact HB.out))) : w.heap.size ≤ gb191)); clear HO_3; clear HB; have HO_3 := n0_; have HB := n1_; have BK191 := n2_; have GW191 := n3_; have GE191 := n4_; clear n0_ n1_ n2_ n3_ n4_; clear hb hbox hg; have hcz7_0 : w6.cell? ⟨gb191, 0, none⟩ = some (.int .i64 0) := (blk_cell BK191.out 0).trans rfl; have hcz7_1 : w6.cell? ⟨gb191, 1, none⟩ = some (.bool false) := (blk_cell BK191.out 1).trans rfl; have hcz7_2 : w6.cell? ⟨gb191, 2, none⟩ = some (.string (⟨#[]⟩ : ByteArray)) := (blk_cell BK191.out 2).trans rfl; have hcz7_3 : w6.cell? ⟨gb191, 3, none⟩ = some (.string (⟨#[]⟩ : ByteArray)) := (blk_cell BK191.out 3).trans rfl; have hcz7_4 : w6.cell? ⟨gb191, 4, none⟩ = some (.string (⟨#[]⟩ : ByteArray)) := (blk_cell BK191.out 4).trans rfl; have hfz7_0 := blk_frozen BK191.out 0; have hfz7_1 := blk_frozen BK191.out 1; have hfz7_2 := blk_frozen BK191.out 2; have hfz7_3 := blk_frozen BK191.out 3; have hfz7_4 := blk_frozen BK191.out 4) | ((with_reducible refine gate_builtin (b := .append) (xs := #[.tmp 12, .tmp 22]) rfl ?_); at_builtin; refine Kd.R_append k65 (w0 := w) w.heap.size rfl (.tmp 12) (.tmp 22) 39 65 (.agg #[(.int .i64 0), (.bool false), (.string ⟨#[]⟩), (.string ⟨#[]⟩), (.string ⟨#[]⟩)]) 64 rfl Try.underlying39 info65 rfl (by decide) (by omega) u3 x3_1 (⟨(rd_T29 l0 x8_1).f0, (rd_T29 l0 x8_1).f1.f0, (⟨(rd_T29 l0 x8_1).f1.f1.f0, (rd_T29 l0 x8_1).f1.f1.f1, (rd_T29 l0 x8_1).f1.f1.f2⟩ : S25)⟩ : S65) [.int .i64 ((rd_T29 l0 x8_1).f0), .bool ((rd_T29 l0 x8_1).f1.f0), .string ((rd_T29 l0 x8_1).f1.f1.f0), .string ((rd_T29 l0 x8_1).f1.f1.f1), .string ((rd_T29 l0 x8_1).f1.f1.f2)] (fun _ => True) (fun _ => False) rfl (by first | (go_simp; done) | (go_simp; rfl)) ?aP (fun _ hk => hk.elim) ?aF ?aO ?aB ?aS ?aL ?_; (case aP => exact k65_mkM _ _ _ (⟨(rd_T29 l0 x8_1).f0, (rd_T29 l0 x8_1).f1.f0, (⟨(rd_T29 l0 x8_1).f1.f1.f0, (rd_T29 l0 x8_1).f1.f1.f1, (rd_T29 l0 x8_1).f1.f1.f2⟩ : S25)⟩ : S65)); (case aB => exact (by repeat (first | (with_reducible first | exact HB.out | apply below_alloc | apply pw_below_drewN | apply below_drew1 | refine below_set ?_ GE191.out) | exact HB.out))); (case aF => exact (fun _ _ => trivial)); (case aO => exact (by (with_reducible repeat (first | apply Kd.R_alloc | apply Kd.R_drewN | apply Kd.R_drew)); exact Kd.R_mono (Kd.R_far (p := ⟨gb191, 4, none⟩) (Kd.R_far (p := ⟨gb191, 3, none⟩) (Kd.R_far (p := ⟨gb191, 2, none⟩) (Kd.R_far (p := ⟨gb191, 1, none⟩) (Kd.R_far (p := ⟨gb191, 0, none⟩) (Kd.R_types HO_3.out BK191.out (by decide)) (fun _ hk => hk.2) (.int .i64 ((rd_T29 l0 x8_1).f0))) (fun _ hk => hk.2) (.bool ((rd_T29 l0 x8_1).f1.f0))) (fun _ hk => hk.2) (.string ((rd_T29 l0 x8_1).f1.f1.f0))) (fun _ hk => hk.2) (.string ((rd_T29 l0 x8_1).f1.f1.f1))) (fun _ hk => hk.2) (.string ((rd_T29 l0 x8_1).f1.f1.f2))) (fun _ hk => trivial))); (case aS => exact (below_size (by repeat (first | (with_reducible first | exact HB.out | apply below_alloc | apply pw_below_drewN | apply below_drew1 | refine below_set ?_ GE191.out) | exact HB.out)))); (case aL => have := LMc5.out; omega); intro v193 w8 ho hb hg hat; rw [← Ny192.out] at ho; have n0_ := Aside0.mk (blk_grown (g := gb191) (o := .cells #[.int .i64 ((rd_T29 l0 x8_1).f0), .bool ((rd_T29 l0 x8_1).f1.f0), .string ((rd_T29 l0 x8_1).f1.f1.f0), .string ((rd_T29 l0 x8_1).f1.f1.f1), .string ((rd_T29 l0 x8_1).f1.f1.f2)] 29 (0, 0)) (by (with_reducible repeat (first | refine blk_drewN ?_ _ | refine blk_drew ?_ | refine blk_alloc ?_ _)); refine blk_put (cs := #[.int .i64 ((rd_T29 l0 x8_1).f0), .bool ((rd_T29 l0 x8_1).f1.f0), .string ((rd_T29 l0 x8_1).f1.f1.f0), .string ((rd_T29 l0 x8_1).f1.f1.f1), .string (⟨#[]⟩ : ByteArray)]) ?_ 4 _ rfl; (with_reducible repeat (first | refine blk_drewN ?_ _ | refine blk_drew ?_ | refine blk_alloc ?_ _)); refine blk_put (cs := #[.int .i64 ((rd_T29 l0 x8_1).f0), .bool ((rd_T29 l0 x8_1).f1.f0), .string ((rd_T29 l0 x8_1).f1.f1.f0), .string (⟨#[]⟩ : ByteArray), .string (⟨#[]⟩ : ByteArray)]) ?_ 3 _ rfl; (with_reducible repeat (first | refine blk_drewN ?_ _ | refine blk_drew ?_ | refine blk_alloc ?_ _)); refine blk_put (cs := #[.int .i64 ((rd_T29 l0 x8_1).f0), .bool ((rd_T29 l0 x8_1).f1.f0), .string (⟨#[]⟩ : ByteArray), .string (⟨#[]⟩ : ByteArray), .string (⟨#[]⟩ : ByteArray)]) ?_ 2 _ rfl; (with_reducible repeat (first | refine blk_drewN ?_ _ | refine blk_drew ?_ | refine blk_alloc ?_ _)); refine blk_put (cs := #[.int .i64 ((rd_T29 l0 x8_1).f0), .bool false, .string (⟨#[]⟩ : ByteArray), .string (⟨#[]⟩ : ByteArray), .string (⟨#[]⟩ : ByteArray)]) ?_ 1 _ rfl; (with_reducible repeat (first | refine blk_drewN ?_ _ | refine blk_drew ?_ | refine blk_alloc ?_ _)); refine blk_put (cs := #[.int .i64 0, .bool false, .string (⟨#[]⟩ : ByteArray), .string (⟨#[]⟩ : ByteArray), .string (⟨#[]⟩ : ByteArray)]) ?_ 0 _ rfl; (with_reducible repeat (first | refine blk_drewN ?_ _ | refine blk_drew ?_ | refine blk_alloc ?_ _)); exact BK191.out) hg (Kd.R_ne HO_3.out BK191.out (by decide))); have n1_ := Aside0.mk (hb); have n2_ := Aside0.mk (ho); clear BK191; clear HB; clear HO_3; have BK191 := n0_; have HB := n1_; have HO194 := n2_; clear n0_ n1_ n2_; clear ho hb hg hat))
              go_roundg k1
              case measure => have := HK1.out; omega
              case rel => exact ⟨(y192), (wrap64 (x8_1 + 1)), (by first | rfl | (simp; done) | (simp [*]; done)), H', ⟨by have := HK1.out; omega⟩, ⟨by (with_reducible repeat (first | apply Kd.R_alloc | apply Kd.R_drewN | apply Kd.R_drew)); exact HO194.out⟩, ⟨by repeat (first | (with_reducible first | exact HB.out | apply below_alloc | apply pw_below_drewN | apply below_drew1 | refine below_set ?_ GE191.out) | exact HB.out)⟩⟩
            · rw [if_neg c5] at H
              exact absurd H (by simp)
          · rw [if_neg c4] at H
            exact absurd H (by simp)
        · rw [if_neg c3] at H
          exact absurd H (by simp)
      · rw [if_neg c2] at H
        have c2b0 : decide (x8_1 < (l0.length : Int)) = false := decide_eq_false c2
        clear c2
        obtain rfl := Option.some.inj H
        go_wp2
        go_ret
        exact ⟨_, by first | rfl | (simp [errW_none, errW_some] <;> rfl) | (simp [*, errW_none, errW_some] <;> rfl), by (with_reducible repeat (first | apply Kd.R_alloc | apply Kd.R_drewN | apply Kd.R_drew)); exact HO_3.out, by repeat (first | (with_reducible first | exact HB.out | apply below_alloc | apply pw_below_drewN | apply below_drew1) | exact HB.out)⟩

/-! ### porterref07_Before: function 31 -/
def porterref07_Before.f (a0_0 : ByteArray) (a0_1 : ByteArray) (a0_2 : ByteArray) (a0_3 : Int) (a0_4 : Int) (a1_0 : ByteArray) (a1_1 : ByteArray) (a1_2 : ByteArray) (a1_3 : Int) (a1_4 : Int) : Option (Bool) := if (!(a0_0.toList == a1_0.toList) || (!(a0_1.toList == a1_1.toList) || (!(a0_2.toList == a1_2.toList)))) = true then ((porterref05_Less.f a0_0 a0_1 a0_2 a1_0 a1_1 a1_2).bind fun t197 => (some t197)) else (some (decide (a0_3 < a1_3)))
set_option maxHeartbeats 8000000 in
set_option maxRecDepth 100000 in
theorem porterref07_Before.calls (a0_0 : ByteArray) (a0_1 : ByteArray) (a0_2 : ByteArray) (a0_3 : Int) (a0_4 : Int) (a1_0 : ByteArray) (a1_1 : ByteArray) (a1_2 : ByteArray) (a1_3 : Int) (a1_4 : Int) (r : Bool) (w : World) (h : porterref07_Before.f a0_0 a0_1 a0_2 a0_3 a0_4 a1_0 a1_1 a1_2 a1_3 a1_4 = some r) :
    Calls Try.prog 31 #[.agg #[.string a0_0, .string a0_1, .string a0_2, .int .i64 a0_3, .int .i64 a0_4], .agg #[.string a1_0, .string a1_1, .string a1_2, .int .i64 a1_3, .int .i64 a1_4]] w fun e w' => e = .returned (.bool r) ∧ Below w.heap.size w w' := by
  have hu51 := Try.underlying51
  have hu25 := Try.underlying25
  have HB := Aside0.mk (Below.refl w.heap.size w)
  have H : (if (!(a0_0.toList == a1_0.toList) || (!(a0_1.toList == a1_1.toList) || (!(a0_2.toList == a1_2.toList)))) = true then ((porterref05_Less.f a0_0 a0_1 a0_2 a1_0 a1_1 a1_2).bind fun t197 => (some t197)) else (some (decide (a0_3 < a1_3)))) = some r := h
  clear h
  by_cases c3 : (!(a0_0.toList == a1_0.toList) || (!(a0_1.toList == a1_1.toList) || (!(a0_2.toList == a1_2.toList)))) = true
  · rw [if_pos c3] at H
    have c3b0 : (!(a0_0.toList == a1_0.toList) || (!(a0_1.toList == a1_1.toList) || (!(a0_2.toList == a1_2.toList)))) = true := c3
    clear c3
    replace H := Option.bind_eq_some_iff.mp H
    obtain ⟨t197, A40, H⟩ := H
    replace H : (some t197) = some r := H
    have A4 := Aside0.mk A40
    clear A40
    obtain rfl := Option.some.inj H
    go_enter Try.func31, Try.ntmps31
    go_wp2_with (first | ((with_reducible refine gate_dst (N := 2) rfl ?_); refine box_event ?hg (N := 2) ?hd (cs := #[.string a0_0, .string a0_1, .string a0_2, .int .i64 a0_3, .int .i64 a0_4]) (t := 51) ?hr ?_; (case hd => rfl); (case hg => rfl); (case hr => first | (go_simp; done) | (go_simp; rfl)); intro gb195 hg w5 hbox hb; have n0_ := Aside0.mk (below_step (by repeat (first | (with_reducible first | exact HB.out | apply below_alloc | apply pw_below_drewN | apply below_drew1) | exact HB.out)) hb); have n1_ := Aside0.mk (hbox); have n2_ := Aside0.mk ((by rw [hg]; exact (below_size (by repeat (first | (with_reducible first | exact HB.out | apply below_alloc | apply pw_below_drewN | apply below_drew1) | exact HB.out))) : w.heap.size ≤ gb195)); have n3_ := Aside0.mk ((by rw [hg]; exact (below_size (by repeat (first | (with_reducible first | exact HB.out | apply below_alloc | apply pw_below_drewN | apply below_drew1) | exact HB.out))) : w.heap.size ≤ gb195)); clear HB; have HB := n0_; have BK195 := n1_; have GW195 := n2_; have GE195 := n3_; clear n0_ n1_ n2_ n3_; clear hb hbox hg) | ((with_reducible refine gate_dst (N := 3) rfl ?_); refine box_event ?hg (N := 3) ?hd (cs := #[.string a1_0, .string a1_1, .string a1_2, .int .i64 a1_3, .int .i64 a1_4]) (t := 51) ?hr ?_; (case hd => rfl); (case hg => rfl); (case hr => first | (go_simp; done) | (go_simp; rfl)); intro gb196 hg w6 hbox hb; have n0_ := Aside0.mk (blk_below (g := gb195) (o := .cells #[.string a0_0, .string a0_1, .string a0_2, .int .i64 a0_3, .int .i64 a0_4] 51 (0, 0)) (by (with_reducible repeat (first | refine blk_drewN ?_ _ | refine blk_drew ?_ | refine blk_alloc ?_ _)); exact BK195.out) hb); have n1_ := Aside0.mk (below_step (by repeat (first | (with_reducible first | exact HB.out | apply below_alloc | apply pw_below_drewN | apply below_drew1 | refine below_set ?_ GE195.out) | exact HB.out)) hb); have n2_ := Aside0.mk (hbox); have n3_ := Aside0.mk ((by rw [hg]; exact (below_size (by repeat (first | (with_reducible first | exact HB.out | apply below_alloc | apply pw_below_drewN | apply below_drew1 | refine below_set ?_ GE195.out) | exact HB.out))) : w.heap.size ≤ gb196)); have n4_ := Aside0.mk ((by rw [hg]; exact (below_size (by repeat (first | (with_reducible first | exact HB.out | apply below_alloc | apply pw_below_drewN | apply below_drew1 | refine below_set ?_ GE195.out) | exact HB.out))) : w.heap.size ≤ gb196)); have n5_ := Aside0.mk ((by rw [hg]; exact Nat.ne_of_lt (blk_lt (g := gb195) (o := .cells #[.string a0_0, .string a0_1, .string a0_2, .int .i64 a0_3, .int .i64 a0_4] 51 (0, 0)) (by (with_reducible repeat (first | refine blk_drewN ?_ _ | refine blk_drew ?_ | refine blk_alloc ?_ _)); exact BK195.out)) : gb195 ≠ gb196)); have n6_ := Aside0.mk ((by rw [hg]; exact Nat.ne_of_gt (blk_lt (g := gb195) (o := .cells #[.string a0_0, .string a0_1, .string a0_2, .int .i64 a0_3, .int .i64 a0_4] 51 (0, 0)) (by (with_reducible repeat (first | refine blk_drewN ?_ _ | refine blk_drew ?_ | refine blk_alloc ?_ _)); exact BK195.out)) : gb196 ≠ gb195)); clear BK195; clear HB; have BK195 := n0_; have HB := n1_; have BK196 := n2_; have GW196 := n3_; have GE196 := n4_; have NB195_196 := n5_; have NB196_195 := n6_; clear n0_ n1_ n2_ n3_ n4_ n5_ n6_; clear hb hbox hg; have hnb7 := NB195_196.out; have hnc7 := NB196_195.out; have hcz8_0 : w6.cell? ⟨gb195, 0, none⟩ = some (.string a0_0) := (blk_cell BK195.out 0).trans rfl; have hcz8_1 : w6.cell? ⟨gb195, 1, none⟩ = some (.string a0_1) := (blk_cell BK195.out 1).trans rfl; have hcz8_2 : w6.cell? ⟨gb195, 2, none⟩ = some (.string a0_2) := (blk_cell BK195.out 2).trans rfl; have hcz8_3 : w6.cell? ⟨gb195, 3, none⟩ = some (.int .i64 a0_3) := (blk_cell BK195.out 3).trans rfl; have hcz8_4 : w6.cell? ⟨gb195, 4, none⟩ = some (.int .i64 a0_4) := (blk_cell BK195.out 4).trans rfl; have hfz8_0 := blk_frozen BK195.out 0; have hfz8_1 := blk_frozen BK195.out 1; have hfz8_2 := blk_frozen BK195.out 2; have hfz8_3 := blk_frozen BK195.out 3; have hfz8_4 := blk_frozen BK195.out 4; have hcz9_0 : w6.cell? ⟨gb196, 0, none⟩ = some (.string a1_0) := (blk_cell BK196.out 0).trans rfl; have hcz9_1 : w6.cell? ⟨gb196, 1, none⟩ = some (.string a1_1) := (blk_cell BK196.out 1).trans rfl; have hcz9_2 : w6.cell? ⟨gb196, 2, none⟩ = some (.string a1_2) := (blk_cell BK196.out 2).trans rfl; have hcz9_3 : w6.cell? ⟨gb196, 3, none⟩ = some (.int .i64 a1_3) := (blk_cell BK196.out 3).trans rfl; have hcz9_4 : w6.cell? ⟨gb196, 4, none⟩ = some (.int .i64 a1_4) := (blk_cell BK196.out 4).trans rfl; have hfz9_0 := blk_frozen BK196.out 0; have hfz9_1 := blk_frozen BK196.out 1; have hfz9_2 := blk_frozen BK196.out 2; have hfz9_3 := blk_frozen BK196.out 3; have hfz9_4 := blk_frozen BK196.out 4) | ((with_reducible refine gate_callee (f := 45) rfl ?_); refine goesL_ (some 14) rfl rfl Try.func45 (by kernel_rfl) rfl #[.agg #[.string a0_0, .string a0_1, .string a0_2], .agg #[.string a1_0, .string a1_1, .string a1_2]] rfl (by (try simp only [List.map_toArray, List.map_cons, List.map_nil]); first | done | rfl | (simp only [List.length_drop, List.length_take]; rfl)) ?_; (with_reducible refine (porterref05_Less.calls a0_0 a0_1 a0_2 a1_0 a1_1 a1_2 t197 _ A4.out).mono ?_); rintro e w10 ⟨rfl, hb⟩; refine ⟨_, rfl, ?_⟩; have n0_ := Aside0.mk (blk_below (g := gb195) (o := .cells #[.string a0_0, .string a0_1, .string a0_2, .int .i64 a0_3, .int .i64 a0_4] 51 (0, 0)) (by (with_reducible repeat (first | refine blk_drewN ?_ _ | refine blk_drew ?_ | refine blk_alloc ?_ _)); exact BK195.out) hb); have n1_ := Aside0.mk (blk_below (g := gb196) (o := .cells #[.string a1_0, .string a1_1, .string a1_2, .int .i64 a1_3, .int .i64 a1_4] 51 (0, 0)) (by (with_reducible repeat (first | refine blk_drewN ?_ _ | refine blk_drew ?_ | refine blk_alloc ?_ _)); exact BK196.out) hb); have n2_ := Aside0.mk (below_step (by repeat (first | (with_reducible first | exact HB.out | apply below_alloc | apply pw_below_drewN | apply below_drew1 | refine below_set ?_ GE195.out | refine below_set ?_ GE196.out) | exact HB.out)) hb); clear BK195; clear BK196; clear HB; have BK195 := n0_; have BK196 := n1_; have HB := n2_; clear n0_ n1_ n2_; (try clear hb); (try clear hb2); (try clear hk); (try clear hi)))
    go_ret
    exact ⟨by first | rfl | (simp [errW_none, errW_some] <;> rfl) | (simp [*, errW_none, errW_some] <;> rfl), by repeat (first | (with_reducible first | exact HB.out | apply below_alloc | apply pw_below_drewN | apply below_drew1 | refine below_set ?_ GE195.out | refine below_set ?_ GE196.out) | exact HB.out)⟩
  · rw [if_neg c3] at H
    have c3b0 : (!(a0_0.toList == a1_0.toList) || (!(a0_1.toList == a1_1.toList) || (!(a0_2.toList == a1_2.toList)))) = false := by simpa using c3
    clear c3
    obtain rfl := Option.some.inj H
    go_enter Try.func31, Try.ntmps31
    go_wp2_with (first | ((with_reducible refine gate_dst (N := 2) rfl ?_); refine box_event ?hg (N := 2) ?hd (cs := #[.string a0_0, .string a0_1, .string a0_2, .int .i64 a0_3, .int .i64 a0_4]) (t := 51) ?hr ?_; (case hd => rfl); (case hg => rfl); (case hr => first | (go_simp; done) | (go_simp; rfl)); intro gb195 hg w11 hbox hb; have n0_ := Aside0.mk (below_step (by repeat (first | (with_reducible first | exact HB.out | apply below_alloc | apply pw_below_drewN | apply below_drew1) | exact HB.out)) hb); have n1_ := Aside0.mk (hbox); have n2_ := Aside0.mk ((by rw [hg]; exact (below_size (by repeat (first | (with_reducible first | exact HB.out | apply below_alloc | apply pw_below_drewN | apply below_drew1) | exact HB.out))) : w.heap.size ≤ gb195)); have n3_ := Aside0.mk ((by rw [hg]; exact (below_size (by repeat (first | (with_reducible first | exact HB.out | apply below_alloc | apply pw_below_drewN | apply below_drew1) | exact HB.out))) : w.heap.size ≤ gb195)); clear HB; have HB := n0_; have BK195 := n1_; have GW195 := n2_; have GE195 := n3_; clear n0_ n1_ n2_ n3_; clear hb hbox hg) | ((with_reducible refine gate_dst (N := 3) rfl ?_); refine box_event ?hg (N := 3) ?hd (cs := #[.string a1_0, .string a1_1, .string a1_2, .int .i64 a1_3, .int .i64 a1_4]) (t := 51) ?hr ?_; (case hd => rfl); (case hg => rfl); (case hr => first | (go_simp; done) | (go_simp; rfl)); intro gb196 hg w12 hbox hb; have n0_ := Aside0.mk (blk_below (g := gb195) (o := .cells #[.string a0_0, .string a0_1, .string a0_2, .int .i64 a0_3, .int .i64 a0_4] 51 (0, 0)) (by (with_reducible repeat (first | refine blk_drewN ?_ _ | refine blk_drew ?_ | refine blk_alloc ?_ _)); exact BK195.out) hb); have n1_ := Aside0.mk (below_step (by repeat (first | (with_reducible first | exact HB.out | apply below_alloc | apply pw_below_drewN | apply below_drew1 | refine below_set ?_ GE195.out) | exact HB.out)) hb); have n2_ := Aside0.mk (hbox); have n3_ := Aside0.mk ((by rw [hg]; exact (below_size (by repeat (first | (with_reducible first | exact HB.out | apply below_alloc | apply pw_below_drewN | apply below_drew1 | refine below_set ?_ GE195.out) | exact HB.out))) : w.heap.size ≤ gb196)); have n4_ := Aside0.mk ((by rw [hg]; exact (below_size (by repeat (first | (with_reducible first | exact HB.out | apply below_alloc | apply pw_below_drewN | apply below_drew1 | refine below_set ?_ GE195.out) | exact HB.out))) : w.heap.size ≤ gb196)); have n5_ := Aside0.mk ((by rw [hg]; exact Nat.ne_of_lt (blk_lt (g := gb195) (o := .cells #[.string a0_0, .string a0_1, .string a0_2, .int .i64 a0_3, .int .i64 a0_4] 51 (0, 0)) (by (with_reducible repeat (first | refine blk_drewN ?_ _ | refine blk_drew ?_ | refine blk_alloc ?_ _)); exact BK195.out)) : gb195 ≠ gb196)); have n6_ := Aside0.mk ((by rw [hg]; exact Nat.ne_of_gt (blk_lt (g := gb195) (o := .cells #[.string a0_0, .string a0_1, .string a0_2, .int .i64 a0_3, .int .i64 a0_4] 51 (0, 0)) (by (with_reducible repeat (first | refine blk_drewN ?_ _ | refine blk_drew ?_ | refine blk_alloc ?_ _)); exact BK195.out)) : gb196 ≠ gb195)); clear BK195; clear HB; have BK195 := n0_; have HB := n1_; have BK196 := n2_; have GW196 := n3_; have GE196 := n4_; have NB195_196 := n5_; have NB196_195 := n6_; clear n0_ n1_ n2_ n3_ n4_ n5_ n6_; clear hb hbox hg; have hnb13 := NB195_196.out; have hnc13 := NB196_195.out; have hcz14_0 : w12.cell? ⟨gb195, 0, none⟩ = some (.string a0_0) := (blk_cell BK195.out 0).trans rfl; have hcz14_1 : w12.cell? ⟨gb195, 1, none⟩ = some (.string a0_1) := (blk_cell BK195.out 1).trans rfl; have hcz14_2 : w12.cell? ⟨gb195, 2, none⟩ = some (.string a0_2) := (blk_cell BK195.out 2).trans rfl; have hcz14_3 : w12.cell? ⟨gb195, 3, none⟩ = some (.int .i64 a0_3) := (blk_cell BK195.out 3).trans rfl; have hcz14_4 : w12.cell? ⟨gb195, 4, none⟩ = some (.int .i64 a0_4) := (blk_cell BK195.out 4).trans rfl; have hfz14_0 := blk_frozen BK195.out 0; have hfz14_1 := blk_frozen BK195.out 1; have hfz14_2 := blk_frozen BK195.out 2; have hfz14_3 := blk_frozen BK195.out 3; have hfz14_4 := blk_frozen BK195.out 4; have hcz15_0 : w12.cell? ⟨gb196, 0, none⟩ = some (.string a1_0) := (blk_cell BK196.out 0).trans rfl; have hcz15_1 : w12.cell? ⟨gb196, 1, none⟩ = some (.string a1_1) := (blk_cell BK196.out 1).trans rfl; have hcz15_2 : w12.cell? ⟨gb196, 2, none⟩ = some (.string a1_2) := (blk_cell BK196.out 2).trans rfl; have hcz15_3 : w12.cell? ⟨gb196, 3, none⟩ = some (.int .i64 a1_3) := (blk_cell BK196.out 3).trans rfl; have hcz15_4 : w12.cell? ⟨gb196, 4, none⟩ = some (.int .i64 a1_4) := (blk_cell BK196.out 4).trans rfl; have hfz15_0 := blk_frozen BK196.out 0; have hfz15_1 := blk_frozen BK196.out 1; have hfz15_2 := blk_frozen BK196.out 2; have hfz15_3 := blk_frozen BK196.out 3; have hfz15_4 := blk_frozen BK196.out 4))
    go_ret
    exact ⟨by first | rfl | (simp [errW_none, errW_some] <;> rfl) | (simp [*, errW_none, errW_some] <;> rfl), by repeat (first | (with_reducible first | exact HB.out | apply below_alloc | apply pw_below_drewN | apply below_drew1 | refine below_set ?_ GE195.out | refine below_set ?_ GE196.out) | exact HB.out)⟩

end Go.Proofs.Ytgjkidclpehnjaa.Pr

namespace Go.Proofs.Ytgjkidclpehnjaa.Pr
open Go.Proofs.Ytgjkidclpehnjaa Go.Sort Go.RowKit

/-- From some fuel on, the form says v. -/
def Ev {α : Type} (g : Nat → Option α) (v : α) : Prop := ∃ k0, ∀ k, k0 ≤ k → g k = some v
theorem Ev.now {α : Type} {v : α} : Ev (fun _ => some v) v := ⟨0, fun _ _ => rfl⟩
theorem Ev.step {α : Type} {g body : Nat → Option α} {v : α} (hb : Ev body v) (h : ∀ k, g (k + 1) = body k) : Ev g v := by
  obtain ⟨k0, hk⟩ := hb
  refine ⟨k0 + 1, fun k hle => ?_⟩
  obtain ⟨k', rfl⟩ : ∃ k', k = k' + 1 := ⟨k - 1, by omega⟩
  rw [h]
  exact hk k' (by omega)
theorem Ev.bind {α β : Type} {g : Nat → Option α} {h : Nat → α → Option β} {v : α} {u : β} (hg : Ev g v) (hh : Ev (fun k => h k v) u) : Ev (fun k => (g k).bind fun x => h k x) u := by
  obtain ⟨k0, h0⟩ := hg
  obtain ⟨k1, h1⟩ := hh
  refine ⟨k0 + k1, fun k hle => ?_⟩
  show (g k).bind _ = some u
  rw [h0 k (by omega)]
  exact h1 k (by omega)

theorem less_bytes : ∀ x y : List UInt8, Op.bytesLess x y = decide (Lib.compareBytes x y < 0)
  | x, [] => by cases x <;> simp [Op.bytesLess, Lib.compareBytes]
  | [], y :: ys => by simp [Op.bytesLess, Lib.compareBytes]
  | x :: xs, y :: ys => by
    rw [Op.bytesLess, cb_cons, less_bytes xs ys]
    by_cases h1 : x.toNat < y.toNat
    · rw [if_pos h1]; simp [UInt8.lt_iff_toNat_lt, h1]
    · rw [if_neg h1]
      by_cases h2 : y.toNat < x.toNat
      · rw [if_pos h2]
        have : x ≠ y := by rintro rfl; omega
        simp [UInt8.lt_iff_toNat_lt, h1, this]
      · rw [if_neg h2]
        have : x = y := UInt8.toNat_inj.1 (by omega)
        subst this
        simp [UInt8.lt_iff_toNat_lt]
theorem bl_lt (a b : ByteArray) : Op.bytesLess a.toList b.toList = decide (cmpS a b < 0) := by
  rw [less_bytes, ByteArray.toList_eq, ByteArray.toList_eq]; rfl
theorem bl_eq (a b : ByteArray) : (a.toList = b.toList) ↔ a = b := by
  rw [ByteArray.toList_eq, ByteArray.toList_eq]; exact bl_inj
theorem less_eq (a b : T) : porterref05_Less.f a.f0 a.f1 a.f2 b.f0 b.f1 b.f2 = some (ltT a b) := by
  unfold porterref05_Less.f ltT ltOf cmpT lexi
  rw [bl_lt, bl_lt, bl_lt]
  by_cases h0 : a.f0 = b.f0
  · rw [if_pos ((bl_eq _ _).2 h0), if_pos (cmpS_zero.2 h0)]
    by_cases h1 : a.f1 = b.f1
    · rw [if_pos ((bl_eq _ _).2 h1), if_pos (cmpS_zero.2 h1)]
    · rw [if_neg (fun e => h1 ((bl_eq _ _).1 e)), if_neg (fun e => h1 (cmpS_zero.1 e))]
  · rw [if_neg (fun e => h0 ((bl_eq _ _).1 e)), if_neg (fun e => h0 (cmpS_zero.1 e))]

theorem rdT_mid (A : List T) (x : T) (B : List T) : rd_T25 (A ++ x :: B) (A.length : Int) = x := by simp [rd_T25]
theorem wrap_len {α : Type} (A : List α) (x : α) (h : A.length < 4294967296) : wrap64 ((A.length : Int) + 1) = ((A ++ [x]).length : Int) := by
  rw [wrap_step _ h]; simp

/-- With, at tuples in order. -/
def ins (t : T) : List T → List T
  | [] => [t]
  | x :: r => if x = t then x :: r else if ltT t x = true then t :: x :: r else x :: ins t r
theorem ins_mem (t z : T) : ∀ l, z ∈ ins t l ↔ z = t ∨ z ∈ l
  | [] => by simp [ins]
  | x :: r => by
    rw [ins]
    split
    · rename_i h; subst h; simp
    · split
      · simp
      · rw [List.mem_cons, ins_mem t z r, List.mem_cons]
        constructor <;> (rintro (h | h | h) <;> simp [h])
theorem ins_len (t : T) : ∀ l, (ins t l).length ≤ l.length + 1
  | [] => by simp [ins]
  | x :: r => by
    have := ins_len t r
    rw [ins]
    split
    · simp
    · split
      · simp
      · simp; omega
theorem ins_strict (t : T) : ∀ l, Strict l → Strict (ins t l)
  | [], _ => by simp [ins, Strict]
  | x :: r, h => by
    have h' := List.pairwise_cons.1 h
    rw [ins]
    split
    · exact h
    · rename_i hne
      split
      · rename_i hlt
        refine List.pairwise_cons.2 ⟨fun z hz => ?_, h⟩
        rcases List.mem_cons.1 hz with rfl | hz
        · exact hlt
        · exact swoT.trans _ _ _ hlt (h'.1 z hz)
      · rename_i hlt
        have hxt : ltT x t = true := by
          cases hq : ltT x t with
          | true => rfl
          | false => exact absurd (ltT_conn hq (by simpa using hlt)) hne
        refine List.pairwise_cons.2 ⟨fun z hz => ?_, ins_strict t r h'.2⟩
        rcases (ins_mem t z r).1 hz with rfl | hz
        · exact hxt
        · exact h'.1 z hz
theorem eqx_T' (x : T) (t : T) : ((x.f0.toList == t.f0.toList && (x.f1.toList == t.f1.toList && (x.f2.toList == t.f2.toList))) = true) = (x = t) := by
  rw [eqx_T]; exact propext (decide_eq_true_iff)
theorem with_done (l : List T) (t : T) (hl : l.length < 1073741824) : ∀ (B A out : List T), l = A ++ B → t ∉ B → out.length ≤ A.length + 1 →
    Ev (fun k => porterref05_With.l0 k l out true (A.length : Int) t.f0 t.f1 t.f2) (out ++ B)
  | [], A, out, he, _, _ => by
    refine Ev.step (body := fun _ => some (out ++ [])) Ev.now fun k => ?_
    rw [porterref05_With.l0, if_neg (by rw [he]; simp), if_pos rfl]; simp
  | x :: B, A, out, he, ht, ho => by
    have hlen : l.length = A.length + 1 + B.length := by rw [he]; simp; omega
    have hx : ¬ x = t := fun e => ht (by simp [e])
    have ih := with_done l t hl B (A ++ [x]) (out ++ [x]) (by rw [he]; simp) (fun h => ht (List.mem_cons_of_mem _ h)) (by simp; omega)
    rw [show out ++ x :: B = (out ++ [x]) ++ B by simp]
    refine Ev.step ih fun k => ?_
    rw [porterref05_With.l0, if_pos (by omega), if_pos (by omega)]
    have hr : rd_T25 l (A.length : Int) = x := by rw [he]; exact rdT_mid A x B
    rw [hr, if_neg (by rw [eqx_T']; exact hx), if_pos rfl, if_pos (by omega), wrap_len A x (by omega)]
theorem with_go (l : List T) (t : T) (hl : l.length < 1073741824) (hS : Strict l) : ∀ (B A : List T), l = A ++ B →
    Ev (fun k => porterref05_With.l0 k l A false (A.length : Int) t.f0 t.f1 t.f2) (A ++ ins t B)
  | [], A, he => by
    refine Ev.step (body := fun _ => some (A ++ [t])) Ev.now fun k => ?_
    rw [porterref05_With.l0, if_neg (by rw [he]; simp), if_neg (by simp), if_pos (by rw [he] at hl; simp at hl; omega)]
  | x :: B, A, he => by
    have hlen : l.length = A.length + 1 + B.length := by rw [he]; simp; omega
    have hr : rd_T25 l (A.length : Int) = x := by rw [he]; exact rdT_mid A x B
    have hB : Strict (x :: B) := by rw [he] at hS; exact (List.pairwise_append.1 hS).2.1
    have hB' := List.pairwise_cons.1 hB
    rw [ins]
    by_cases hx : x = t
    · rw [if_pos hx]
      refine Ev.step (body := fun _ => some (A ++ x :: B)) Ev.now fun k => ?_
      rw [porterref05_With.l0, if_pos (by omega), if_pos (by omega), hr, if_pos (by rw [eqx_T']; exact hx), he]
    · rw [if_neg hx]
      by_cases hlt : ltT t x = true
      · rw [if_pos hlt]
        have hd := with_done l t hl B (A ++ [x]) ((A ++ [t]) ++ [x]) (by rw [he]; simp) (fun h => by have h1 := hB'.1 t h; rw [ltT_asymm hlt] at h1; cases h1) (by simp)
        rw [show A ++ t :: x :: B = ((A ++ [t]) ++ [x]) ++ B by simp]
        refine Ev.step hd fun k => ?_
        rw [porterref05_With.l0, if_pos (by omega), if_pos (by omega), hr, if_neg (by rw [eqx_T']; exact hx), if_neg (by simp), less_eq]
        simp only [Option.bind_some]
        rw [if_pos hlt, if_pos (by omega), if_pos (by simp; omega), wrap_len A x (by omega)]
      · rw [if_neg hlt]
        have ih := with_go l t hl hS B (A ++ [x]) (by rw [he]; simp)
        rw [show A ++ x :: ins t B = (A ++ [x]) ++ ins t B by simp]
        refine Ev.step ih fun k => ?_
        rw [porterref05_With.l0, if_pos (by omega), if_pos (by omega), hr, if_neg (by rw [eqx_T']; exact hx), if_neg (by simp), less_eq]
        simp only [Option.bind_some]
        rw [if_neg hlt, if_pos (by omega), wrap_len A x (by omega)]
theorem With_ev (l : List T) (t : T) (hl : l.length < 1073741824) (hS : Strict l) : Ev (fun k => porterref05_With.f k l t.f0 t.f1 t.f2) (ins t l) := with_go l t hl hS l [] rfl

/-- Lists in one order without twins and with the same members are one. -/
theorem strict_ext {l l' : List T} (h : Strict l) (h' : Strict l') (hm : ∀ z, z ∈ l ↔ z ∈ l') : l = l' :=
  sorted_perm_eq swoT h.sorted h'.sorted ((List.perm_ext_iff_of_nodup h.nodup h'.nodup).2 hm) (fun _ _ _ _ h1 h2 => ltT_conn h1 h2)

/-! ### plain -/
def plainCh (c : Ch) : S65 := ⟨c.f0, c.f1.f0, c.f1.f1⟩
theorem rdCh_mid (A : List Ch) (x : Ch) (B : List Ch) : rd_T29 (A ++ x :: B) (A.length : Int) = x := by simp [rd_T29]
theorem rdP_mid (A : List S65) (x : S65) (B : List S65) : rd_T65 (A ++ x :: B) (A.length : Int) = x := by simp [rd_T65]
theorem plain_go (l : List Ch) (hl : l.length < 1073741824) : ∀ (B A : List Ch), l = A ++ B → Ev (fun k => porterlaw22_plain.l0 k (A.map plainCh) l (l.length : Int) (A.length : Int)) (l.map plainCh)
  | [], A, he => by
    refine Ev.step (body := fun _ => some (l.map plainCh)) Ev.now fun k => ?_
    rw [porterlaw22_plain.l0, if_neg (by rw [he]; simp), he]; simp
  | x :: B, A, he => by
    have hlen : l.length = A.length + 1 + B.length := by rw [he]; simp; omega
    have hr : rd_T29 l (A.length : Int) = x := by rw [he]; exact rdCh_mid A x B
    have ih := plain_go l hl B (A ++ [x]) (by rw [he]; simp)
    refine Ev.step ih fun k => ?_
    rw [porterlaw22_plain.l0, if_pos (by omega), if_pos (by omega), if_pos (by omega), if_pos (by simp; omega), hr, wrap_len A x (by omega)]
    simp [plainCh]
theorem plain_ev (l : List Ch) (hl : l.length < 1073741824) : Ev (fun k => porterlaw22_plain.f k l) (l.map plainCh) := plain_go l hl l [] rfl

/-! ### Play -/
def playRef (acc : List T) (c : Ch) : List T := if c.f1.f0 = true then acc.filter (fun t => decide (t ≠ c.f1.f1)) else ins c.f1.f1 acc
theorem playRef_strict {acc : List T} (h : Strict acc) (c : Ch) : Strict (playRef acc c) := by
  unfold playRef
  split
  · exact h.sublist List.filter_sublist
  · exact ins_strict _ _ h
theorem playRef_len (acc : List T) (c : Ch) : (playRef acc c).length ≤ acc.length + 1 := by
  unfold playRef
  split
  · exact Nat.le_trans (List.length_filter_le _ _) (by omega)
  · exact ins_len _ _
theorem playRef_mem (acc acc' : List T) (c : Ch) (h : ∀ z, z ∈ acc ↔ z ∈ acc') (z : T) : z ∈ playRef acc c ↔ z ∈ playDo acc' c := by
  unfold playRef playDo
  split
  · rw [List.mem_filter, List.mem_filter, h]
  · rw [ins_mem, h, putT]
    split
    · rename_i hm
      constructor
      · rintro (rfl | h2)
        · exact hm
        · exact h2
      · exact Or.inr
    · simp [or_comm]
theorem playDo_nodup {acc : List T} (h : acc.Nodup) (c : Ch) : (playDo acc c).Nodup := by
  unfold playDo
  split
  · exact h.sublist List.filter_sublist
  · exact putT_nodup h _
theorem play_filter (cs : List S65) (c : S65) (i : Int) (acc : List T) (hi : 0 ≤ i) (hi2 : i < cs.length) (hr : rd_T65 cs i = c) (hl : acc.length < 1073741824) (v : List T) :
    ∀ (B A : List T), acc = A ++ B → Ev (fun k => porterref22_Play.l1 k cs (acc.filter (fun t => decide (t ≠ c.f2))) (wrap64 (i + 1))) v →
    Ev (fun k => porterref22_Play.l2 k cs acc i (A.filter (fun t => decide (t ≠ c.f2))) (A.length : Int)) v
  | [], A, he, hv => by
    refine Ev.step hv fun k => ?_
    rw [porterref22_Play.l2, if_neg (by rw [he]; simp), he]; simp
  | x :: B, A, he, hv => by
    have hlen : acc.length = A.length + 1 + B.length := by rw [he]; simp; omega
    have hx : rd_T25 acc (A.length : Int) = x := by rw [he]; exact rdT_mid A x B
    have ih := play_filter cs c i acc hi hi2 hr hl v B (A ++ [x]) (by rw [he]; simp) hv
    have hA := List.length_filter_le (fun t => decide (t ≠ c.f2)) A
    refine Ev.step ih fun k => ?_
    rw [porterref22_Play.l2, if_pos (by omega), if_pos (by omega), if_pos hi, if_pos hi2, hx, hr]
    have e : ((!(x.f0.toList == c.f2.f0.toList) || (!(x.f1.toList == c.f2.f1.toList) || !(x.f2.toList == c.f2.f2.toList))) = true) = (x ≠ c.f2) := by
      rw [← Bool.not_and, ← Bool.not_and, eqx_T]; simp
    by_cases hc : x = c.f2
    · rw [if_neg (by rw [e]; exact fun h => h hc), wrap_len A x (by omega), List.filter_append]
      simp [hc]
    · rw [if_pos (by rw [e]; exact hc), if_pos (by omega), wrap_len A x (by omega), List.filter_append]
      simp [hc]
theorem play_cs (cs : List Ch) (hl : cs.length ≤ 1048576) : ∀ (B A : List Ch) (acc : List T), cs = A ++ B → Strict acc → acc.length ≤ 1048576 + A.length →
    Ev (fun k => porterref22_Play.l1 k (cs.map plainCh) acc (A.length : Int)) (B.foldl playRef acc)
  | [], A, acc, he, _, _ => by
    refine Ev.step (body := fun _ => some acc) Ev.now fun k => ?_
    rw [porterref22_Play.l1, if_neg (by rw [he]; simp)]
  | x :: B, A, acc, he, hS, ha => by
    have hlen : cs.length = A.length + 1 + B.length := by rw [he]; simp; omega
    have hr : rd_T65 (cs.map plainCh) (A.length : Int) = plainCh x := by
      have := rdP_mid (A.map plainCh) (plainCh x) (B.map plainCh)
      rw [List.length_map] at this
      rw [he, List.map_append, List.map_cons]; exact this
    have hlt : (A.length : Int) < ((cs.map plainCh).length : Int) := by rw [List.length_map]; omega
    have ih := play_cs cs hl B (A ++ [x]) (playRef acc x) (by rw [he]; simp) (playRef_strict hS x) (by have := playRef_len acc x; simp; omega)
    rw [List.foldl_cons]
    by_cases hd : x.f1.f0 = true
    · have hq := play_filter (cs.map plainCh) (plainCh x) (A.length : Int) acc (by omega) hlt hr (by omega) (B.foldl playRef (playRef acc x)) acc [] rfl (by
        rw [wrap_len A x (by omega)]
        have e : playRef acc x = acc.filter (fun t => decide (t ≠ (plainCh x).f2)) := by unfold playRef; rw [if_pos hd]; rfl
        rw [← e]; exact ih)
      refine Ev.step hq fun k => ?_
      rw [porterref22_Play.l1, if_pos hlt, if_pos (by omega), hr, if_pos (by exact hd)]
      rfl
    · have hw := With_ev acc x.f1.f1 (by omega) hS
      have e : playRef acc x = ins x.f1.f1 acc := by unfold playRef; rw [if_neg hd]
      rw [e] at ih ⊢
      refine Ev.step (Ev.bind (h := fun k u => porterref22_Play.l1 k (cs.map plainCh) u ((A ++ [x]).length : Int)) hw ih) fun k => ?_
      rw [porterref22_Play.l1, if_pos hlt, if_pos (by omega), hr, if_neg (by exact hd), wrap_len A x (by omega)]
      rfl
theorem play_ts (ts : List T) (cs : List Ch) (hlt : ts.length ≤ 1048576) (hlc : cs.length ≤ 1048576) : ∀ (B A acc : List T), ts = A ++ B → Strict acc → acc.length ≤ A.length →
    Ev (fun k => porterref22_Play.l0 k ts (cs.map plainCh) acc (A.length : Int)) (cs.foldl playRef (B.foldl (fun a t => ins t a) acc))
  | [], A, acc, he, hS, ha => by
    have hA : A.length ≤ 1048576 := by rw [he] at hlt; simpa using hlt
    refine Ev.step (play_cs cs hlc cs [] acc rfl hS (by simp; omega)) fun k => ?_
    rw [porterref22_Play.l0, if_neg (by rw [he]; simp)]; rfl
  | x :: B, A, acc, he, hS, ha => by
    have hlen : ts.length = A.length + 1 + B.length := by rw [he]; simp; omega
    have hr : rd_T25 ts (A.length : Int) = x := by rw [he]; exact rdT_mid A x B
    have ih := play_ts ts cs hlt hlc B (A ++ [x]) (ins x acc) (by rw [he]; simp) (ins_strict x acc hS) (by have := ins_len x acc; simp; omega)
    refine Ev.step (Ev.bind (h := fun k u => porterref22_Play.l0 k ts (cs.map plainCh) u ((A ++ [x]).length : Int)) (With_ev acc x (by omega) hS) ih) fun k => ?_
    rw [porterref22_Play.l0, if_pos (by omega), if_pos (by omega), hr, wrap_len A x (by omega)]
theorem Play_same (ts : List T) (cs : List Ch) : cs.foldl playRef (ts.foldl (fun a t => ins t a) []) = msort ltT (playL ts cs) := by
  have h1 : ∀ (ts acc acc' : List T), Strict acc → acc'.Nodup → (∀ z, z ∈ acc ↔ z ∈ acc') → Strict (ts.foldl (fun a t => ins t a) acc) ∧ (ts.foldl putT acc').Nodup ∧ ∀ z, z ∈ ts.foldl (fun a t => ins t a) acc ↔ z ∈ ts.foldl putT acc' := by
    intro ts
    induction ts with
    | nil => intro acc acc' a b c; exact ⟨a, b, c⟩
    | cons t ts ih =>
      intro acc acc' a b c
      refine ih _ _ (ins_strict t acc a) (putT_nodup b t) fun z => ?_
      have := playRef_mem acc acc' ⟨0, ⟨false, t⟩⟩ c z
      simpa [playRef, playDo] using this
  have h2 : ∀ (cs : List Ch) (acc acc' : List T), Strict acc → acc'.Nodup → (∀ z, z ∈ acc ↔ z ∈ acc') → Strict (cs.foldl playRef acc) ∧ (cs.foldl playDo acc').Nodup ∧ ∀ z, z ∈ cs.foldl playRef acc ↔ z ∈ cs.foldl playDo acc' := by
    intro cs
    induction cs with
    | nil => intro acc acc' a b c; exact ⟨a, b, c⟩
    | cons t ts ih =>
      intro acc acc' a b c
      exact ih _ _ (playRef_strict a t) (playDo_nodup b t) (playRef_mem acc acc' t c)
  obtain ⟨a, b, c⟩ := h1 ts [] [] List.Pairwise.nil List.nodup_nil (fun _ => Iff.rfl)
  obtain ⟨a, b, c⟩ := h2 cs _ _ a b c
  have hn : (msort ltT (playL ts cs)).Nodup := (msort_perm ltT _).nodup_iff.2 b
  refine strict_ext a (strict_of (msort_sorted swoT _) hn) fun z => ?_
  rw [c z, msort_mem]; rfl
theorem Play_ev (ts : List T) (cs : List Ch) (hlt : ts.length ≤ 1048576) (hlc : cs.length ≤ 1048576) : Ev (fun k => porterref22_Play.f k ts (cs.map plainCh)) (msort ltT (playL ts cs)) := by
  have h := play_ts ts cs hlt hlc ts [] [] rfl List.Pairwise.nil (by simp)
  rw [Play_same] at h
  exact h
end Go.Proofs.Ytgjkidclpehnjaa.Pr
