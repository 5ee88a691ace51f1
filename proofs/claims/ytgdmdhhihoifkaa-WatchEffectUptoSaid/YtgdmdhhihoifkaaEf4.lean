/- A part of the proof of the law; the last part states it: whatever the law reads, of bulk at most 2^20, it returns true and what it reads is as it was. Condition: the form's own bound. -/
import Derived.Shelf.SlSortCmp.NoneTotal
import Derived.Test.YtgdmdhhihoifkaaEf3
import Derived.Test.YtgdmdhhihoifkaaEf2
import Derived.Carry
import Derived.Deep.AppendLies
import Derived.Lib.SmallJoins
import Derived.RangeFuncNested
import Derived.RangeFuncBound
import Derived.RangeFuncCalls
import Derived.RangeFuncLeaves
import Derived.RangeFuncBox
import Derived.Shelf.Abstract
import Derived.WalkKit
import Derived.OwnWalkIn
import Derived.TacticsInMore
import Derived.LoopNIn
import Derived.LoopIn
import Derived.Deep.RegionHeld3
import Derived.Lib.SliceRun
import Derived.Shelf.SlicesQ.Contains
set_option linter.unusedVariables false
set_option linter.unusedSimpArgs false
namespace Go.Proofs.Ytgdmdhhihoifkaa.Pr
open Go.Shelf Go.RowKit Go.Lib Go.Sort Go.Proofs.Ytgdmdhhihoifkaa
open Go.Proofs.YtgdmdhhihoifkaaW.PrintWords Go.Proofs.YtgdmdhhihoifkaaW.PrintLast Go.Proofs.YtgdmdhhihoifkaaW.PrintMore

theorem enT_len (x : T) : (enT x).length = 3 := rfl
theorem enMu_len (x : Mu) : (enMu x).length = 4 := rfl
theorem enRo_len (x : Ro) : (enRo x).length = 5 := rfl
theorem enCh_len (x : Ch) : (enCh x).length = 5 := rfl
theorem enT_one (x : T) : ∀ v ∈ enT x, v.oneCell' = true := by intro v hv; simp [enT] at hv; rcases hv with rfl | rfl | rfl <;> rfl
theorem enMu_one (x : Mu) : ∀ v ∈ enMu x, v.oneCell' = true := by intro v hv; simp [enMu, enT] at hv; rcases hv with rfl | rfl | rfl | rfl <;> rfl
theorem enRo_one (x : Ro) : ∀ v ∈ enRo x, v.oneCell' = true := by intro v hv; simp [enRo, enT] at hv; rcases hv with rfl | rfl | rfl | rfl | rfl <;> rfl
theorem enCh_one (x : Ch) : ∀ v ∈ enCh x, v.oneCell' = true := by intro v hv; simp [enCh, enMu, enT] at hv; rcases hv with rfl | rfl | rfl | rfl | rfl <;> rfl

theorem grownBy_SWK {α : Type} [Inhabited α] {enc : α → List Value} {k : Nat} {w w' : World} {g : Nat} {d : Array α} (S : SWK enc k w g 0 d w') : w.grownBy w' (some g) := by
  obtain ⟨n, os, rfl⟩ := S
  refine ⟨rfl, rfl, rfl, by unfold sortWorldK; rw [size_grow, size_putRowK]; exact Nat.le_add_right _ _, fun i hi hne => ?_⟩
  unfold sortWorldK
  rw [heap_grow_old _ _ (by rw [size_putRowK]; exact hi)]
  have : g ≠ i := fun e => hne (by rw [e])
  simp [putRowK, putRow, mapBlock, Sort.ahead, Array.getElem?_modify, this]

theorem lays_of {α : Type} [Inhabited α] {P : Program} {g : Nat} {enc : α → List Value} {cf : α → α → Int} (h : ∀ (x y : α) (W : World), Calls P g #[.agg (enc x).toArray, .agg (enc y).toArray] W fun e w' => e = .returned (.int .i64 (cf x y)) ∧ Gr W w') (k blk off sz : Nat) (w : World) :
    CmpLays P g #[] enc k cf blk off sz w := fun m os dk _ x y => by
  rw [Array.append_empty]
  exact h x y _

theorem msort_nil {α : Type} (lt : α → α → Bool) : msort lt [] = [] := by simp [msort]

/-! ### SortFunc -/
theorem sortF_of {α : Type} [Inhabited α] {ρ : Ren} (L : SlLaysF0.n6 Try.prog ρ) (e k : Nat) (aE : ∀ w, (isAgg (ρ.t 24)).run Try.prog w = .ok true w) (zE : ∀ w, (Go.sizeOf (ρ.t 24)).run Try.prog w = .ok k w) (enc : α → List Value) (hk : ∀ x, (enc x).length = k) (h1 : ∀ x, ∀ v ∈ enc x, v.oneCell' = true)
    (cf : α → α → Int) (hO : SWO (ltOf cf)) (g : Nat) (eg : ∀ args w, (callFunc g args).run Try.prog w = .ok (.enter g args) w) (hc : ∀ (x y : α) (W : World), Calls Try.prog g #[.agg (enc x).toArray, .agg (enc y).toArray] W fun e w' => e = .returned (.int .i64 (cf x y)) ∧ Gr W w')
    (base : Nat) (v : Value) (l : List α) (w : World) (h : w.ownsRow base e k v l.length (l.flatMap enc)) (hl : l.length < 4611686018427387904) (he : ∀ x ∈ l, ∀ y ∈ l, ltOf cf x y = false → ltOf cf y x = false → x = y) :
    Calls Try.prog (ρ.f 6) #[v, .func (.func g) #[] #[]] w fun r w' => r = .returned (.tuple #[]) ∧ w'.ownsRow base e k v (msort (ltOf cf) l).length ((msort (ltOf cf) l).flatMap enc) ∧ w.grownBy w' v.ownBlock := by
  rcases h.2 with ⟨rfl, hn⟩ | ⟨b, cap, cur, rfl, _⟩
  · obtain rfl : l = [] := List.eq_nil_of_length_eq_zero hn
    refine (AnyF.slices_SortFunc_none L none 0 (.func (.func g) #[] #[]) w).mono ?_
    rintro r w' ⟨rfl, rfl⟩
    exact ⟨rfl, by rw [msort_nil]; exact h, World.grownBy.refl _ _⟩
  · obtain ⟨hH, hb, hbase, hcap⟩ := holdsK_of_own hk h rfl
    refine (AnyQ.slices_SortFunc L k aE zE enc hk h1 cf hO g #[] b 0 cap l.toArray w eg (lays_of hc k b 0 _ w) hH hb (by simpa using hl)).mono ?_
    rintro r w' ⟨rfl, d', n, os, hp, hs, rfl⟩
    obtain ⟨p1, p2⟩ := sortedIn_list hp hs
    have p1' : d'.toList.Perm l := by simpa using p1
    have hd : d'.toList = msort (ltOf cf) l := sorted_perm_eq hO p2 (msort_sorted hO l) (p1'.trans (msort_perm _ l).symm) (fun x hx y hy => he x (p1'.mem_iff.1 hx) y (p1'.mem_iff.1 hy))
    have S : SWK enc k w b 0 (msort (ltOf cf) l ++ []).toArray (sortWorldK enc k w b 0 n d' os) := by
      rw [List.append_nil, ← hd, Array.toArray_toList]; exact ⟨n, os, rfl⟩
    have hml : (msort (ltOf cf) l).length = l.length := (msort_perm _ l).length_eq
    refine ⟨rfl, ?_, grownBy_SWK S⟩
    have := own_of_SWK hk h S (by simp [hml])
    rw [hml] at this ⊢
    exact this

theorem sort_T (base : Nat) (v : Value) (l : List T) (w : World) (h : w.ownsRow base 25 3 v l.length (l.flatMap enT)) (hl : l.length < 4611686018427387904) :
    Calls Try.prog 29 #[v, .func (.func 24) #[] #[]] w fun r w' => r = .returned (.tuple #[]) ∧ w'.ownsRow base 25 3 v (msort ltT l).length ((msort ltT l).flatMap enT) ∧ w.grownBy w' v.ownBlock :=
  sortF_of Try.sortTuple 25 3 Try.isAgg25 Try.sizeOf25 enT enT_len enT_one cmpT cmp_T.swo 24 (enters_of Try.func24 (by kernel_rfl) rfl) (fun x y W => tuple_Compare x y W) base v l w h hl
    (fun x _ y _ h1 h2 => by
      have a := cmp_T.anti x y
      unfold ltOf at h1 h2
      rw [decide_eq_false_iff_not] at h1 h2
      exact cmpT_zero.1 (by omega))

theorem sort_Mu (base : Nat) (v : Value) (l : List Mu) (w : World) (h : w.ownsRow base 27 4 v l.length (l.flatMap enMu)) (hl : l.length < 4611686018427387904) (he : ∀ x ∈ l, ∀ y ∈ l, x.f1 = y.f1 → x = y) :
    Calls Try.prog 33 #[v, .func (.func 34) #[] #[]] w fun r w' => r = .returned (.tuple #[]) ∧ w'.ownsRow base 27 4 v (msort ltMu l).length ((msort ltMu l).flatMap enMu) ∧ w.grownBy w' v.ownBlock :=
  sortF_of Try.sortMut 27 4 Try.isAgg27 Try.sizeOf27 enMu enMu_len enMu_one cmpMu cmp_Mu.swo 34 (enters_of Try.func34 (by kernel_rfl) rfl) (fun x y W => watch_Net1 x y W) base v l w h hl
    (fun x hx y hy h1 h2 => by
      have a := cmp_Mu.anti x y
      unfold ltOf at h1 h2
      rw [decide_eq_false_iff_not] at h1 h2
      exact he x hx y hy (cmpT_zero.1 (show cmpT x.f1 y.f1 = 0 by unfold cmpMu at *; omega)))

/-! ### SortStableFunc -/
theorem sort_Ch (base : Nat) (v : Value) (l : List Ch) (w : World) (h : w.ownsRow base 29 5 v l.length (l.flatMap enCh)) (hl : l.length < 4611686018427387904) :
    Calls Try.prog 27 #[v, .func (.func 28) #[] #[]] w fun r w' => r = .returned (.tuple #[]) ∧ w'.ownsRow base 29 5 v (msort ltCh l).length ((msort ltCh l).flatMap enCh) ∧ w.grownBy w' v.ownBlock := by
  rcases h.2 with ⟨rfl, hn⟩ | ⟨b, cap, cur, rfl, _⟩
  · obtain rfl : l = [] := List.eq_nil_of_length_eq_zero hn
    refine (StCh.sortStable_none StChF.here 28 0 #[] w).mono ?_
    rintro r w' ⟨rfl, rfl⟩
    exact ⟨rfl, by rw [msort_nil]; exact h, World.grownBy.refl _ _⟩
  · obtain ⟨hH, hb, hbase, hcap⟩ := holdsK_of_own enCh_len h rfl
    have R : RowK enCh 5 w b 0 l.toArray := ⟨enCh_len, enCh_one, hH, hb⟩
    have eg := enters_of Try.func28 (by kernel_rfl) rfl
    have hc := lays_of (fun x y W => watch_order x y W) 5 b 0 l.length w
    refine (StCh.sortStable StChF.here enCh cmpCh cmp_Ch.swo 28 #[] b 0 cap l.length l.toArray w R eg hc (by simp) hl
      (fun a b' dk W hdk S hab hb' => StCh.ins Try.insCh Try.isAgg29 Try.sizeOf29 enCh cmpCh cmp_Ch.swo 28 #[] b 0 cap l.length l.toArray w R eg hc (by simp) hl a b' dk W hdk S hab hb') l w rfl (SWK.start hH)).mono ?_
    rintro r w' ⟨rfl, W, S, hs, ht⟩
    obtain rfl := eq_msort cmp_Ch.swo hs ht
    have hml : (msort (ltOf cmpCh) l).length = l.length := (msort_perm _ l).length_eq
    refine ⟨rfl, ?_, grownBy_SWK S⟩
    have := own_of_SWK (C := msort (ltOf cmpCh) l) (Z := []) enCh_len h (SWK_cong S (by simp)) (by simp [hml])
    rw [hml] at this
    rw [show (msort ltCh l).length = l.length from hml]
    exact this

theorem sort_Ro (base : Nat) (v : Value) (l : List Ro) (w : World) (h : w.ownsRow base 51 5 v l.length (l.flatMap enRo)) (hl : l.length < 4611686018427387904) :
    Calls Try.prog 21 #[v, .func (.func 22) #[] #[]] w fun r w' => r = .returned (.tuple #[]) ∧ w'.ownsRow base 51 5 v (msort ltRo l).length ((msort ltRo l).flatMap enRo) ∧ w.grownBy w' v.ownBlock := by
  rcases h.2 with ⟨rfl, hn⟩ | ⟨b, cap, cur, rfl, _⟩
  · obtain rfl : l = [] := List.eq_nil_of_length_eq_zero hn
    refine (StRow.sortStable_none StRowF.here 22 0 #[] w).mono ?_
    rintro r w' ⟨rfl, rfl⟩
    exact ⟨rfl, by rw [msort_nil]; exact h, World.grownBy.refl _ _⟩
  · obtain ⟨hH, hb, hbase, hcap⟩ := holdsK_of_own enRo_len h rfl
    have R : RowK enRo 5 w b 0 l.toArray := ⟨enRo_len, enRo_one, hH, hb⟩
    have eg := enters_of Try.func22 (by kernel_rfl) rfl
    have hc := lays_of (fun x y W => watch_Rows1 x y W) 5 b 0 l.length w
    refine (StRow.sortStable StRowF.here enRo cmpRo cmp_Ro.swo 22 #[] b 0 cap l.length l.toArray w R eg hc (by simp) hl
      (fun a b' dk W hdk S hab hb' => StRow.ins Try.insRow Try.isAgg51 Try.sizeOf51 enRo cmpRo cmp_Ro.swo 22 #[] b 0 cap l.length l.toArray w R eg hc (by simp) hl a b' dk W hdk S hab hb') l w rfl (SWK.start hH)).mono ?_
    rintro r w' ⟨rfl, W, S, hs, ht⟩
    obtain rfl := eq_msort cmp_Ro.swo hs ht
    have hml : (msort (ltOf cmpRo) l).length = l.length := (msort_perm _ l).length_eq
    refine ⟨rfl, ?_, grownBy_SWK S⟩
    have := own_of_SWK (C := msort (ltOf cmpRo) l) (Z := []) enRo_len h (SWK_cong S (by simp)) (by simp [hml])
    rw [hml] at this
    rw [show (msort ltRo l).length = l.length from hml]
    exact this

/-! ### Compact -/
theorem compact_T (base : Nat) (v : Value) (l : List T) (w : World) (h : w.ownsRow base 25 3 v l.length (l.flatMap enT)) (hl : l.length < 4611686018427387904) :
    Calls Try.prog 37 #[v] w fun r w' => ∃ v', r = .returned v' ∧ w'.ownsRow base 25 3 v' (compactL l).length ((compactL l).flatMap enT) ∧ v'.ownBlock = v.ownBlock ∧ w.grownBy w' v.ownBlock := by
  rcases h.2 with ⟨rfl, hn⟩ | ⟨b, cap, cur, rfl, _⟩
  · obtain rfl : l = [] := List.eq_nil_of_length_eq_zero hn
    refine (CpT.compact_none CpTF.here 0 w).mono ?_
    rintro r w' ⟨rfl, rfl⟩
    exact ⟨_, rfl, h, rfl, World.grownBy.refl _ _⟩
  · obtain ⟨hH, hb, hbase, hcap⟩ := holdsK_of_own enT_len h rfl
    refine (CpT.compact CpTF.here enT z25 eql_T neq_T Try.zeroValue25 b 0 cap l.length l l.toArray w w ⟨enT_len, enT_one, hH, hb⟩ (by omega) (SWK.start hH) (by simp) rfl hcap hl).mono ?_
    rintro r w' ⟨Z, rfl, S, hz⟩
    exact ⟨_, rfl, own_of_SWK enT_len h S hz, rfl, grownBy_SWK S⟩

theorem compact_Mu (base : Nat) (v : Value) (l : List Mu) (w : World) (h : w.ownsRow base 27 4 v l.length (l.flatMap enMu)) (hl : l.length < 4611686018427387904) :
    Calls Try.prog 35 #[v] w fun r w' => ∃ v', r = .returned v' ∧ w'.ownsRow base 27 4 v' (compactL l).length ((compactL l).flatMap enMu) ∧ v'.ownBlock = v.ownBlock ∧ w.grownBy w' v.ownBlock := by
  rcases h.2 with ⟨rfl, hn⟩ | ⟨b, cap, cur, rfl, _⟩
  · obtain rfl : l = [] := List.eq_nil_of_length_eq_zero hn
    refine (CpMu.compact_none CpMuF.here 0 w).mono ?_
    rintro r w' ⟨rfl, rfl⟩
    exact ⟨_, rfl, h, rfl, World.grownBy.refl _ _⟩
  · obtain ⟨hH, hb, hbase, hcap⟩ := holdsK_of_own enMu_len h rfl
    refine (CpMu.compact CpMuF.here enMu z27 eql_Mu neq_Mu Try.zeroValue27 b 0 cap l.length l l.toArray w w ⟨enMu_len, enMu_one, hH, hb⟩ (by omega) (SWK.start hH) (by simp) rfl hcap hl).mono ?_
    rintro r w' ⟨Z, rfl, S, hz⟩
    exact ⟨_, rfl, own_of_SWK enMu_len h S hz, rfl, grownBy_SWK S⟩
theorem below_grown {base : Nat} {w0 w w' : World} {v : Value} {e : TypeId} {size n : Nat} {xs : List Value} (hb : Below base w0 w) (hg : w.grownBy w' v.ownBlock) (hbase : base ≤ w.heap.size) (ho : w.ownsRow base e size v n xs) : Below base w0 w' :=
  hb.grown hg hbase (fun k hk => (ho.lt k hk).1)
end Go.Proofs.Ytgdmdhhihoifkaa.Pr

namespace Go.Proofs.Ytgdmdhhihoifkaa.Pr
open Go.Shelf Go.RowKit Go.Lib Go.Sort Go.Proofs.Ytgdmdhhihoifkaa
open Go.Proofs.YtgdmdhhihoifkaaW.PrintWords Go.Proofs.YtgdmdhhihoifkaaW.PrintLast Go.Proofs.YtgdmdhhihoifkaaW.PrintMore
open Go.ChangeMaps (setBlock)

/-! ### the keys, plainly -/
theorem mfind_none {t : T} : ∀ {m : List (T × Int)} {i : Nat}, mfind t m i = none ↔ t ∉ m.map Prod.fst
  | [], i => by simp [mfind]
  | p :: m, i => by
    rw [mfind]
    by_cases h : t = p.1
    · simp [h]
    · rw [if_neg h, mfind_none (m := m), List.map_cons, List.mem_cons]; simp [h]
theorem mput_keys (t : T) (v : Int) (m : List (T × Int)) : (mput t v m).map Prod.fst = putT (m.map Prod.fst) t := by
  unfold mput putT
  cases hq : mfind t m 0 with
  | none => rw [if_neg (mfind_none.1 hq)]; simp
  | some q =>
    obtain ⟨i, v0⟩ := q
    obtain ⟨n, hin, hmn⟩ := mfind_at t m 0 i v0 hq
    obtain rfl : i = n := by omega
    have hmem : t ∈ m.map Prod.fst := List.mem_map.2 ⟨(t, v0), List.mem_of_getElem? hmn, rfl⟩
    rw [if_pos hmem]
    apply List.ext_getElem?
    intro j
    simp only [List.getElem?_map, List.getElem?_set]
    by_cases hj : i = j
    · subst hj
      have h8 := lt_of_get hmn
      have h9 := List.getElem?_eq_getElem h8
      rw [hmn] at h9
      injection h9 with h9
      simp [h8, ← h9]
    · simp [hj]
theorem mdel_keys (t : T) (m : List (T × Int)) (hn : (m.map Prod.fst).Nodup) : (mdel t m).map Prod.fst = (m.map Prod.fst).filter (fun u => decide (u ≠ t)) := by
  unfold mdel
  cases hq : mfind t m 0 with
  | none =>
    have h := mfind_none.1 hq
    rw [List.filter_eq_self.2]
    intro u hu
    have : u ≠ t := fun e => h (by rw [← e]; exact hu)
    simpa using this
  | some q =>
    obtain ⟨i, v0⟩ := q
    obtain ⟨n, hin, hmn⟩ := mfind_at t m 0 i v0 hq
    obtain rfl : i = n := by omega
    have hlt := lt_of_get hmn
    have hk : (m.map Prod.fst)[i]? = some t := by rw [List.getElem?_map, hmn]; rfl
    dsimp only
    rw [ChangeMaps.map_eraseIdx]
    generalize m.map Prod.fst = l at hn hk
    clear hq hmn hlt hin
    induction l generalizing i with
    | nil => simp at hk
    | cons x l ih =>
      rw [List.nodup_cons] at hn
      cases i with
      | zero =>
        obtain rfl : x = t := by simpa using hk
        rw [List.eraseIdx_cons_zero, List.filter_cons_of_neg (by simp), List.filter_eq_self.2]
        intro u hu
        have : u ≠ x := fun e => hn.1 (by rw [← e]; exact hu)
        simpa using this
      | succ i =>
        have hk' : l[i]? = some t := by simpa using hk
        have hx : x ≠ t := fun e => hn.1 (by rw [e]; exact List.mem_of_getElem? hk')
        rw [List.eraseIdx_cons_succ, List.filter_cons_of_pos (by simpa using hx), ih i hn.2 hk']
theorem putT_nodup {l : List T} (h : l.Nodup) (t : T) : (putT l t).Nodup := by
  unfold putT
  split
  · exact h
  · rename_i hq
    rw [List.nodup_append]
    refine ⟨h, by simp, ?_⟩
    intro a ha b hb
    simp only [List.mem_singleton] at hb
    rintro rfl
    exact hq (hb ▸ ha)
theorem putT_filter (l : List T) (t : T) : (putT l t).filter (fun u => decide (u ≠ t)) = l.filter (fun u => decide (u ≠ t)) := by
  unfold putT
  split
  · rfl
  · rw [List.filter_append, List.filter_cons_of_neg (by simp), List.filter_nil, List.append_nil]
theorem putT_len (l : List T) (t : T) : (putT l t).length ≤ l.length + 1 := by
  unfold putT; split <;> simp
theorem playDo_len (l : List T) (c : Ch) : (playDo l c).length ≤ l.length + 1 := by
  unfold playDo; split
  · exact Nat.le_trans (List.length_filter_le _ _) (Nat.le_succ _)
  · exact putT_len _ _
theorem foldl_len {β : Type} (f : List T → β → List T) (hf : ∀ l x, (f l x).length ≤ l.length + 1) : ∀ (xs : List β) (l : List T), (xs.foldl f l).length ≤ l.length + xs.length
  | [], l => by simp
  | x :: xs, l => by
    rw [List.foldl_cons, List.length_cons]
    have := foldl_len f hf xs (f l x)
    have := hf l x
    omega
theorem play_len (ts : List T) (cs : List Ch) : (playL ts cs).length ≤ ts.length + cs.length := by
  unfold playL
  have h1 := foldl_len playDo playDo_len cs (ts.foldl putT [])
  have h2 := foldl_len putT putT_len ts []
  simp at h2; omega
theorem ne_row {w : World} {base : Nat} {v : Value} {n : Nat} {xs : List Value} {e : TypeId} {sz b : Nat} (h : w.ownsRow base e sz v n xs) (hb : ∀ cs q fr, w.heap[b]? ≠ some (.cells cs q fr)) : some b ≠ v.ownBlock := by
  rcases h.2 with ⟨rfl, _⟩ | ⟨g, cap, cur, rfl, _, hg, _⟩
  · simp [Value.ownBlock]
  · intro e
    have : b = g := by simpa [Value.ownBlock] using e
    subst this
    exact hb _ _ _ hg
theorem RngIs.no {w : World} {r b : Nat} {ks acc : List T} {n : Nat} (h : RngIs w r b ks acc n) : (∀ cs q fr, w.heap[r]? ≠ some (.cells cs q fr)) ∧ (∀ cs q fr, w.heap[b]? ≠ some (.cells cs q fr)) := by
  obtain ⟨es, clock, since, seen, c, L, h1, h2, _⟩ := h
  exact ⟨fun _ _ _ e => (by rw [h2] at e; cases e), fun _ _ _ e => (by rw [h1] at e; cases e)⟩
theorem RngIs.alloc {w : World} {r b : Nat} {ks acc : List T} {n : Nat} (h : RngIs w r b ks acc n) (o : Obj) : RngIs (w.alloc o) r b ks acc n := h.kept (Below.heap_alloc _ _ _ h.lt.2) (Below.heap_alloc _ _ _ h.lt.1)
theorem below_map {B : Nat} {w0 w w' : World} (hb : Below B w0 w) (hB : B ≤ w.heap.size) {b : Nat} (hg : w.grownBy w' (some b)) (h : B ≤ b) : Below B w0 w' := hb.grown hg hB (fun k e => by cases e; exact h)

set_option maxHeartbeats 4000000 in
set_option maxRecDepth 100000 in
theorem watch_Play.calls (A0 : Option Addr) (c0 : Nat) (l0 : List T) (A1 : Option Addr) (c1 : Nat) (l1 : List Ch) (r : List T) (w : World) (hr0 : Kd.C k25 w A0 l0.length l0) (hc0 : l0.length ≤ c0) (hr1 : Kd.C k29 w A1 l1.length l1) (hc1 : l1.length ≤ c1) (h : watch_Play.f l0 l1 = some r) :
    Calls Try.prog 10 #[.slice A0 l0.length c0, .slice A1 l1.length c1] w fun e w' => ∃ v0_ : Value, e = .returned (v0_) ∧ Kd.R k25 25 w' w.heap.size (fun _ => True) v0_ r ∧ Below w.heap.size w w' := by
  obtain ⟨ht0, ht1, rfl⟩ : l0.length ≤ 1073741824 ∧ l1.length ≤ 1073741824 ∧ msort ltT (playL l0 l1) = r := by
    unfold watch_Play.f tiny at h
    split at h
    · split at h
      · rename_i h1 h2
        exact ⟨of_decide_eq_true h1, of_decide_eq_true h2, Option.some.inj h⟩
      · cases h
    · cases h
  have HR0 : Aside (Kd.C k25 w A0 l0.length l0) := hr0
  have HR1 : Aside (Kd.C k29 w A1 l1.length l1) := hr1
  clear hr0 hc0 hr1 hc1 h
  have hmm := @run_makeMap Try.prog
  go_enter Try.func10, Try.ntmps10
  go_wp2
  clear hmm
  obtain ⟨B, hB⟩ : ∃ B, B = w.heap.size := ⟨_, rfl⟩
  have S0 : Aside (MapIs (w.alloc (.map #[] 0)) B [] ∧ Below B w (w.alloc (.map #[] 0)) ∧ B < (w.alloc (.map #[] 0)).heap.size) := by
    subst hB; exact ⟨MapIs.made w, (Below.refl _ w).alloc (Nat.le_refl _) _, by simp⟩
  rw [← hB]
  have HBe : Hid (B = w.heap.size) := hB
  clear hB
  go_loopg [15] l0.length (fun gk s15 wr => ∃ (i : Nat) (m : List (T × Int)), s15 = .int .i64 i ∧ i ≤ l0.length ∧ l0.length - i ≤ gk ∧ Hid (m.map Prod.fst = (l0.take i).foldl putT [] ∧ (m.map Prod.fst).Nodup) ∧ Aside (MapIs wr B m ∧ Below B w wr ∧ B < wr.heap.size))
  case atStart => exact ⟨0, [], rfl, Nat.zero_le _, Nat.le_refl _, ⟨rfl, by simp⟩, S0⟩
  case round =>
    clear S0
    obtain ⟨i, m, rfl, hi, hg, HM, S1⟩ := hrel
    by_cases hlt : i < l0.length
    · have hltz : (i : Int) < (l0.length : Int) := by omega
      obtain ⟨ad, x, hA, hx, h0, h1, h2⟩ := el_T HR0.out rfl i hlt
      have HBl : Below w.heap.size w wr := by rw [← HBe.out]; exact S1.out.2.1
      replace h0 := cell_below HBl h0
      replace h1 := cell_below HBl h1
      replace h2 := cell_below HBl h2
      clear HBl
      subst hA
      obtain ⟨w1, hrun, hM1, hg1⟩ := put_T (S1.out.1.alloc (.cells #[.string x.f0, .string x.f1, .string x.f2] 25)) x 1
      have HM1 : Hid ((mput x 1 m).map Prod.fst = (l0.take (i + 1)).foldl putT [] ∧ ((mput x 1 m).map Prod.fst).Nodup) := by
        have h := HM.out
        rw [mput_keys]
        refine ⟨?_, putT_nodup h.2 _⟩
        rw [take_step l0 i x hx, List.foldl_append, h.1]; rfl
      have S2 : Aside (MapIs w1 B (mput x 1 m) ∧ Below B w w1 ∧ B < w1.heap.size) := ⟨hM1, below_map (S1.out.2.1.alloc (by have := S1.out.2.2; omega) _) (by have := S1.out.2.2; simp; omega) hg1 (Nat.le_refl _), by have := S1.out.2.2; have := hg1.size; simp at this; omega⟩
      clear hM1 hg1 HM hx S1
      obtain ⟨t0, t1, t2⟩ := x
      simp only [kv] at hrun
      dsimp only at h0 h1 h2
      go_wp2
      go_roundg (l0.length - (i + 1))
      case measure => omega
      case rel => exact ⟨i + 1, _, by first | rfl | go_num, by omega, Nat.le_refl _, HM1, S2.out⟩
    · have hltz : ¬ (i : Int) < (l0.length : Int) := by omega
      have HM0 : Hid (m.map Prod.fst = l0.foldl putT [] ∧ (m.map Prod.fst).Nodup) := by
        have h := HM.out
        exact ⟨by rw [h.1, List.take_of_length_le (by omega)], h.2⟩
      clear HM
      go_wp2
      go_loopg [24] l1.length (fun gk s24 wr => ∃ (i : Nat) (m : List (T × Int)), s24 = .int .i64 i ∧ i ≤ l1.length ∧ l1.length - i ≤ gk ∧ Hid (m.map Prod.fst = (l1.take i).foldl playDo (l0.foldl putT []) ∧ (m.map Prod.fst).Nodup) ∧ Aside (MapIs wr B m ∧ Below B w wr ∧ B < wr.heap.size))
      case atStart => exact ⟨0, m, rfl, Nat.zero_le _, Nat.le_refl _, HM0, S1⟩
      case round =>
        clear S1 HM0
        obtain ⟨i, m, rfl, hi, hg, HM, S1⟩ := hrel
        by_cases hlt : i < l1.length
        · have hltz : (i : Int) < (l1.length : Int) := by omega
          obtain ⟨ad, x, hA, hx, h0, h1, h2, h3, h4⟩ := el_Ch HR1.out rfl i hlt
          have HBl : Below w.heap.size w wr := by rw [← HBe.out]; exact S1.out.2.1
          replace h0 := cell_below HBl h0
          replace h1 := cell_below HBl h1
          replace h2 := cell_below HBl h2
          replace h3 := cell_below HBl h3
          replace h4 := cell_below HBl h4
          clear HBl
          subst hA
          have hbx := blk_new wr (.cells #[.int .i64 x.f0, .bool x.f1.f0, .string x.f1.f1.f0, .string x.f1.f1.f1, .string x.f1.f1.f2] 29)
          obtain ⟨w1, hrun, hM1, hg1⟩ := put_T (S1.out.1.alloc (.cells #[.int .i64 x.f0, .bool x.f1.f0, .string x.f1.f1.f0, .string x.f1.f1.f1, .string x.f1.f1.f2] 29)) x.f1.f1 1
          have hb1 := blk_grown hbx hg1 (by have := S1.out.2.2; simp; omega)
          have hB1 := below_map (S1.out.2.1.alloc (by have := S1.out.2.2; omega) (.cells #[.int .i64 x.f0, .bool x.f1.f0, .string x.f1.f1.f0, .string x.f1.f1.f1, .string x.f1.f1.f2] 29)) (by have := S1.out.2.2; simp; omega) hg1 (Nat.le_refl _)
          have hs1 : B < w1.heap.size := by have := S1.out.2.2; have := hg1.size; simp at this; omega
          obtain ⟨w2, hrun2, hM2, hg2⟩ := del_T hM1 x.f1.f1
          have hB2 := below_map hB1 (by omega) hg2 (Nat.le_refl _)
          have hs2 : B < w2.heap.size := by have := hg2.size; omega
          have hk1 : ((mput x.f1.f1 1 m).map Prod.fst).Nodup := by rw [mput_keys]; exact putT_nodup HM.out.2 _
          have hstep : (l1.take (i + 1)).foldl playDo (l0.foldl putT []) = playDo (m.map Prod.fst) x := by
            rw [take_step l1 i x hx, List.foldl_append, HM.out.1]; rfl
          obtain ⟨x0, x1, t0, t1, t2⟩ := x
          simp only [kv] at hrun hrun2
          dsimp only at h0 h1 h2 h3 h4 hb1 hk1 hM1 hM2
          by_cases hd : x1 = true
          · subst hd
            have HM1 : Hid ((mdel ⟨t0, t1, t2⟩ (mput ⟨t0, t1, t2⟩ 1 m)).map Prod.fst = (l1.take (i + 1)).foldl playDo (l0.foldl putT []) ∧ ((mdel ⟨t0, t1, t2⟩ (mput ⟨t0, t1, t2⟩ 1 m)).map Prod.fst).Nodup) := by
              rw [mdel_keys _ _ hk1, mput_keys, putT_filter, hstep]
              exact ⟨rfl, HM.out.2.sublist List.filter_sublist⟩
            have S2 : Aside (MapIs w2 B (mdel ⟨t0, t1, t2⟩ (mput ⟨t0, t1, t2⟩ 1 m)) ∧ Below B w w2 ∧ B < w2.heap.size) := ⟨hM2, hB2, hs2⟩
            have e1 : w1.cell? ⟨wr.heap.size, 1, none⟩ = some (.bool true) := (blk_cell hb1 1).trans rfl
            have e2 : w1.cell? ⟨wr.heap.size, 2, none⟩ = some (.string t0) := (blk_cell hb1 2).trans rfl
            have e3 : w1.cell? ⟨wr.heap.size, 3, none⟩ = some (.string t1) := (blk_cell hb1 3).trans rfl
            have e4 : w1.cell? ⟨wr.heap.size, 4, none⟩ = some (.string t2) := (blk_cell hb1 4).trans rfl
            clear hM1 hg1 HM hx S1 hbx hb1 hB1 hs1 hM2 hg2 hB2 hs2 hk1 hstep
            go_wp2
            go_roundg (l1.length - (i + 1))
            case measure => omega
            case rel => exact ⟨i + 1, _, by first | rfl | go_num, by omega, Nat.le_refl _, HM1, S2.out⟩
          · obtain rfl : x1 = false := by simpa using hd
            have HM1 : Hid ((mput ⟨t0, t1, t2⟩ 1 m).map Prod.fst = (l1.take (i + 1)).foldl playDo (l0.foldl putT []) ∧ ((mput ⟨t0, t1, t2⟩ 1 m).map Prod.fst).Nodup) := by
              rw [mput_keys] at hk1 ⊢
              rw [hstep]
              exact ⟨rfl, hk1⟩
            have S2 : Aside (MapIs w1 B (mput ⟨t0, t1, t2⟩ 1 m) ∧ Below B w w1 ∧ B < w1.heap.size) := ⟨hM1, hB1, hs1⟩
            have e1 : w1.cell? ⟨wr.heap.size, 1, none⟩ = some (.bool false) := (blk_cell hb1 1).trans rfl
            clear hM1 hg1 HM hx S1 hbx hb1 hB1 hs1 hM2 hg2 hB2 hs2 hk1 hstep hrun2
            go_wp2
            go_roundg (l1.length - (i + 1))
            case measure => omega
            case rel => exact ⟨i + 1, _, by first | rfl | go_num, by omega, Nat.le_refl _, HM1, S2.out⟩
        · have hltz : ¬ (i : Int) < (l1.length : Int) := by omega
          have HM0 : Hid (m.map Prod.fst = playL l0 l1 ∧ m.length ≤ 2147483648) := by
            have h := HM.out
            have h1 : m.map Prod.fst = playL l0 l1 := by rw [h.1, List.take_of_length_le (by omega)]; rfl
            have h2 := play_len l0 l1
            have h3 := congrArg List.length h1
            simp at h3
            exact ⟨h1, by omega⟩
          clear HM
          obtain ⟨o, hrange, hrng⟩ := rng_start S1.out.1
          obtain ⟨rb, hrb⟩ : ∃ rb, rb = wr.heap.size := ⟨_, rfl⟩
          rw [← hrb] at hrange hrng
          have S2 : Aside (RngIs (wr.alloc o) rb B (m.map Prod.fst) [] m.length ∧ Below B w (wr.alloc o) ∧ B < (wr.alloc o).heap.size ∧ B ≤ rb) := ⟨hrng, S1.out.2.1.alloc (by have := S1.out.2.2; omega) _, by have := S1.out.2.2; simp; omega, by have := S1.out.2.2; omega⟩
          clear hrng S1 hrb
          go_wp2
          go_loopg [10] m.length (fun gk s10 wr => ∃ (acc : List T) (n : Nat), n ≤ gk ∧ acc.length + n = m.length ∧ Aside (RngIs wr rb B (m.map Prod.fst) acc n ∧ Below B w wr ∧ B < wr.heap.size ∧ B ≤ rb) ∧ Aside (Kd.R k25 25 wr B (fun _ => True) s10 acc))
          case atStart => exact ⟨[], m.length, Nat.le_refl _, by simp, S2, Kd.R_nil _ _ _ _ _⟩
          case round =>
            clear S2
            obtain ⟨acc, n, hn, hlen, S3, HO⟩ := hrel
            rcases rng_next S3.out.1 with ⟨h0, hp, hnx⟩ | ⟨t, w1, n', hn', ⟨u, hnx, hen⟩, hr1, hg1⟩
            · have hal : acc.length < 4611686018427387904 := by have := HM0.out.2; omega
              have hs := sort_T B u10 acc wr (fl_T HO.out) hal
              have hms : msort ltT acc = msort ltT (playL l0 l1) := by
                rw [← HM0.out.1]
                exact msort_congr cmp_T.swo hp (fun x _ y _ q1 q2 => by
                  have a := cmp_T.anti x y
                  unfold ltOf at q1 q2
                  rw [decide_eq_false_iff_not] at q1 q2
                  exact cmpT_zero.1 (by omega))
              have HMS : Hid (msort ltT acc = msort ltT (playL l0 l1)) := hms
              have HSo : Hid (type_of% hs) := hs
              have HF : Aside (wr.ownsRow B 25 3 u10 acc.length (acc.flatMap enT)) := fl_T HO.out
              clear hs hal hms hp
              go_wp2_with (go_at_call 29; refine HSo.out.mono ?_; rintro e w1 ⟨rfl, ho1, hg1⟩; have HO1 : Aside _ := ho1; have HG1 : Aside _ := hg1; clear ho1 hg1)
              go_ret
              refine ⟨_, rfl, ?_, ?_⟩
              · rw [← HMS.out, ← HBe.out]; exact R_T HO1.out
              · rw [← HBe.out]; exact below_grown S3.out.2.1 HG1.out (by have := S3.out.2.2.1; omega) HF.out
            · have hal : acc.length < 4294967296 := by have := HM0.out.2; omega
              have hn1 := ne_row (fl_T HO.out) S3.out.1.no.1
              have hn2 := ne_row (fl_T HO.out) S3.out.1.no.2
              have hO1 := Kd.R_grown1 HO.out rfl hg1 hn1
              have hB1 := below_map S3.out.2.1 (by have := S3.out.2.2.1; omega) hg1 S3.out.2.2.2
              have hs1 : B < w1.heap.size := by have := S3.out.2.2.1; have := hg1.size; omega
              have HL : Aside (acc.length < 4294967296 ∧ B < w1.heap.size ∧ B ≤ rb) := ⟨hal, hs1, S3.out.2.2.2⟩
              have HW : Aside (RngIs w1 rb B (m.map Prod.fst) (acc ++ [t]) n' ∧ Kd.R k25 25 w1 B (fun _ => True) u10 acc ∧ Below B w w1 ∧ some rb ≠ u10.ownBlock ∧ some B ≠ u10.ownBlock) := ⟨hr1, hO1, hB1, hn1, hn2⟩
              clear hal hn1 hn2 hO1 hB1 hs1 hr1 hg1 S3 HO
              obtain ⟨t0, t1, t2⟩ := t
              simp only [kv] at hnx hen
              go_wp2_with (at_builtin; refine app_T (w0 := w) B rfl (.tmp 46) (.tmp 48) rfl u10 acc ⟨t0, t1, t2⟩ rfl (by first | (go_simp; done) | (go_simp; rfl)) ?aO ?aB ?aS HL.out.1 ?_; (case aO => exact Kd.R_alloc HW.out.2.1 _); (case aB => exact HW.out.2.2.1.alloc (by have := HL.out.2.1; omega) _); (case aS => have := HL.out.2.1; simp; omega); intro v2 w2 ho hb hg2 hat; have HO2 : Aside _ := ho; have HB2 : Aside _ := hb; have HG2 : Aside _ := hg2; clear ho hb hg2 hat)
              go_roundg n'
              case measure => omega
              case rel =>
                have h1 := HW.out.1.alloc (.cells #[.string t0, .string t1, .string t2] 25)
                refine ⟨_, n', Nat.le_refl _, by simp; omega, ⟨h1.kept (HG2.out.block _ h1.lt.2 HW.out.2.2.2.2) (HG2.out.block _ h1.lt.1 HW.out.2.2.2.1), HB2.out, ?_, HL.out.2.2⟩, HO2.out⟩
                have := HG2.out.size; have := HL.out.2.1; simp at *; omega
end Go.Proofs.Ytgdmdhhihoifkaa.Pr

namespace Go.Proofs.Ytgdmdhhihoifkaa.Pr
open Go.Shelf Go.RowKit Go.Lib Go.Sort Go.Proofs.Ytgdmdhhihoifkaa
open Go.Proofs.YtgdmdhhihoifkaaW.PrintWords Go.Proofs.YtgdmdhhihoifkaaW.PrintLast Go.Proofs.YtgdmdhhihoifkaaW.PrintMore
open Go.ChangeMaps (setBlock)

/-! ### the open rows and the map that names them, plainly -/
def Inv (out : List Ro) (m : List (T × Int)) : Prop := (m.map Prod.fst).Nodup ∧ ∀ t v, (t, v) ∈ m ↔ ∃ (i : Nat) (r : Ro), v = (i : Int) ∧ out[i]? = some r ∧ r.f0 = t ∧ r.f2 = 0
theorem mfind_mem {t : T} {m : List (T × Int)} {p : Nat} {v : Int} (h : mfind t m 0 = some (p, v)) : (t, v) ∈ m := by
  obtain ⟨n, _, hn⟩ := mfind_at t m 0 p v h
  exact List.mem_of_getElem? hn
theorem key_one {m : List (T × Int)} (hn : (m.map Prod.fst).Nodup) {t : T} {u v : Int} (h1 : (t, u) ∈ m) (h2 : (t, v) ∈ m) : u = v := by
  induction m with
  | nil => simp at h1
  | cons p m ih =>
    rw [List.map_cons, List.nodup_cons] at hn
    have key : ∀ {x : Int}, (t, x) ∈ m → t ∈ m.map Prod.fst := fun h => List.mem_map.2 ⟨_, h, rfl⟩
    rcases List.mem_cons.1 h1 with e1 | e1 <;> rcases List.mem_cons.1 h2 with e2 | e2
    · rw [← e1] at e2; injection e2 with _ e; exact e.symm
    · exact absurd (key e2) (by rw [← e1] at hn; exact hn.1)
    · exact absurd (key e1) (by rw [← e2] at hn; exact hn.1)
    · exact ih hn.2 e1 e2
theorem mem_mdel {m : List (T × Int)} (hn : (m.map Prod.fst).Nodup) (t u : T) (v : Int) : (u, v) ∈ mdel t m ↔ (u, v) ∈ m ∧ u ≠ t := by
  have hk := mdel_keys t m hn
  have hsub : (mdel t m).Sublist m := by
    unfold mdel
    split
    · exact List.eraseIdx_sublist _ _
    · exact List.Sublist.refl _
  constructor
  · intro h
    refine ⟨hsub.subset h, ?_⟩
    have : u ∈ (mdel t m).map Prod.fst := List.mem_map.2 ⟨_, h, rfl⟩
    rw [hk] at this
    simpa using (List.mem_filter.1 this).2
  · rintro ⟨h1, h2⟩
    have : u ∈ (mdel t m).map Prod.fst := by
      rw [hk]
      exact List.mem_filter.2 ⟨List.mem_map.2 ⟨_, h1, rfl⟩, by simpa using h2⟩
    obtain ⟨⟨u', v'⟩, h3, rfl⟩ := List.mem_map.1 this
    have := key_one hn h1 (hsub.subset h3)
    subst this
    exact h3
theorem Inv.no {out : List Ro} {m : List (T × Int)} (h : Inv out m) {t : T} (hq : mfind t m 0 = none) : out.any (openAt t) = false := by
  rw [List.any_eq_false]
  intro r hr ho
  obtain ⟨i, hi⟩ := List.getElem?_of_mem hr
  have ho2 := of_decide_eq_true ho
  have := (h.2 t i).2 ⟨i, r, rfl, hi, ho2.1, ho2.2⟩
  exact mfind_none.1 hq (List.mem_map.2 ⟨_, this, rfl⟩)
theorem Inv.yes {out : List Ro} {m : List (T × Int)} (h : Inv out m) {t : T} {p : Nat} {v : Int} (hq : mfind t m 0 = some (p, v)) : ∃ (i : Nat) (r : Ro), v = (i : Int) ∧ out[i]? = some r ∧ r.f0 = t ∧ r.f2 = 0 ∧ out.any (openAt t) = true ∧ (∀ j r', out[j]? = some r' → openAt t r' = true → j = i) := by
  obtain ⟨i, r, hv, hi, h1, h2⟩ := (h.2 t v).1 (mfind_mem hq)
  refine ⟨i, r, hv, hi, h1, h2, List.any_eq_true.2 ⟨r, List.mem_of_getElem? hi, decide_eq_true ⟨h1, h2⟩⟩, ?_⟩
  intro j r' hj ho
  have ho2 := of_decide_eq_true ho
  have h3 := (h.2 t j).2 ⟨j, r', rfl, hj, ho2.1, ho2.2⟩
  have := key_one h.1 h3 (mfind_mem hq)
  omega
theorem Inv.put {out : List Ro} {m : List (T × Int)} (h : Inv out m) {t : T} (hq : mfind t m 0 = none) (x : Int) : Inv (out ++ [⟨t, x, 0⟩]) (mput t (out.length : Nat) m) := by
  refine ⟨by rw [mput_keys]; exact putT_nodup h.1 t, fun u v => ?_⟩
  have hp : mput t (out.length : Nat) m = m ++ [(t, (out.length : Int))] := by unfold mput; rw [hq]
  rw [hp, List.mem_append, List.mem_singleton, h.2 u v]
  constructor
  · rintro (⟨i, r, h1, h2, h3⟩ | h1)
    · exact ⟨i, r, h1, by rw [List.getElem?_append_left (lt_of_get h2)]; exact h2, h3⟩
    · injection h1 with h1 h2
      exact ⟨out.length, ⟨t, x, 0⟩, h2, by simp, h1.symm, rfl⟩
  · rintro ⟨i, r, h1, h2, h3, h4⟩
    rcases Nat.lt_or_ge i out.length with hi | hi
    · left
      rw [List.getElem?_append_left hi] at h2
      exact ⟨i, r, h1, h2, h3, h4⟩
    · right
      have := lt_of_get h2
      simp at this
      obtain rfl : i = out.length := by omega
      simp at h2
      subst h2
      rw [h1, ← h3]
theorem Inv.close {out : List Ro} {m : List (T × Int)} (h : Inv out m) {t : T} {i : Nat} {r : Ro} (hi : out[i]? = some r) (h1 : r.f0 = t) (hu : ∀ j r', out[j]? = some r' → openAt t r' = true → j = i) (x : Int) (hx : x ≠ 0) : Inv (out.set i ⟨r.f0, r.f1, x⟩) (mdel t m) := by
  refine ⟨by rw [mdel_keys t m h.1]; exact h.1.sublist List.filter_sublist, fun u v => ?_⟩
  rw [mem_mdel h.1, h.2 u v]
  constructor
  · rintro ⟨⟨j, r', h2, h3, h4, h5⟩, hne⟩
    refine ⟨j, r', h2, ?_, h4, h5⟩
    have : i ≠ j := by
      rintro rfl
      rw [hi] at h3; injection h3 with h3
      exact hne (by rw [← h4, ← h3, h1])
    rw [List.getElem?_set_ne this]; exact h3
  · rintro ⟨j, r', h2, h3, h4, h5⟩
    by_cases hj : i = j
    · subst hj
      rw [List.getElem?_set_self (lt_of_get hi)] at h3
      injection h3 with h3
      subst h3
      exact absurd h5 hx
    · rw [List.getElem?_set_ne hj] at h3
      refine ⟨⟨j, r', h2, h3, h4, h5⟩, ?_⟩
      rintro rfl
      exact hj (hu j r' h3 (decide_eq_true ⟨h4, h5⟩)).symm
theorem close_map {out : List Ro} {t : T} {i : Nat} {r : Ro} (hi : out[i]? = some r) (h1 : r.f0 = t) (h2 : r.f2 = 0) (hu : ∀ j r', out[j]? = some r' → openAt t r' = true → j = i) (x : Int) :
    out.map (fun r => if openAt t r = true then ⟨r.f0, r.f1, x⟩ else r) = out.set i ⟨r.f0, r.f1, x⟩ := by
  apply List.ext_getElem?
  intro j
  rw [List.getElem?_map]
  by_cases hj : i = j
  · subst hj
    rw [List.getElem?_set_self (lt_of_get hi), hi, Option.map_some, if_pos (show openAt t r = true from decide_eq_true ⟨h1, h2⟩)]
  · rw [List.getElem?_set_ne hj]
    cases hq : out[j]? with
    | none => rfl
    | some r' =>
      rw [Option.map_some, if_neg]
      intro ho
      exact hj (hu j r' hq ho).symm
theorem set_same {out : List Ro} {i : Nat} {r : Ro} (hi : out[i]? = some r) (h2 : r.f2 = 0) : out.set i ⟨r.f0, r.f1, 0⟩ = out := by
  apply List.ext_getElem?
  intro j
  by_cases hj : i = j
  · subst hj
    rw [List.getElem?_set_self (lt_of_get hi), hi]
    obtain ⟨a, b, c⟩ := r
    dsimp only at h2
    rw [h2]
  · rw [List.getElem?_set_ne hj]
theorem rowsDo_len (out : List Ro) (c : Ch) : (rowsDo out c).length ≤ out.length + 1 := by
  unfold rowsDo
  split <;> split <;> simp
theorem rows_len (l : List Ch) : (rowsL l).length ≤ l.length := by
  unfold rowsL
  have : ∀ (l : List Ch) (o : List Ro), (l.foldl rowsDo o).length ≤ o.length + l.length := by
    intro l
    induction l with
    | nil => intro o; simp
    | cons c l ih =>
      intro o
      rw [List.foldl_cons, List.length_cons]
      have := ih (rowsDo o c)
      have := rowsDo_len o c
      omega
  simpa using this l []

/-! ### one cell of a row turned -/
theorem flat_set (x : Int) : ∀ (l : List Ro) (i : Nat) (r : Ro), l[i]? = some r → (l.flatMap enRo).set (i * 5 + 4) (.int .i64 x) = (l.set i ⟨r.f0, r.f1, x⟩).flatMap enRo
  | [], i, r, h => by simp at h
  | y :: l, 0, r, h => by
    obtain rfl : y = r := by simpa using h
    simp [enRo, enT]
  | y :: l, i + 1, r, h => by
    have ih := flat_set x l i r (by simpa using h)
    rw [List.set_cons_succ, List.flatMap_cons, List.flatMap_cons, ← ih]
    have e : (i + 1) * 5 + 4 = (enRo y).length + (i * 5 + 4) := by rw [enRo_len]; omega
    rw [e, List.set_append_right _ _ (Nat.le_add_right _ _), Nat.add_sub_cancel_left]
theorem set_until {w : World} {base g n cap : Nat} {out : List Ro} {i : Nat} {r : Ro} (h : w.ownsRow base 51 5 (.slice (some ⟨g, 0, none⟩) n cap) out.length (out.flatMap enRo)) (hi : out[i]? = some r) (x : Int) :
    w.cell? ⟨g, i * 5 + 4, none⟩ = some (.int .i64 r.f2) ∧ w.frozen? ⟨g, i * 5 + 4, none⟩ = false ∧
      (w.setCell ⟨g, i * 5 + 4, none⟩ (.int .i64 x)).ownsRow base 51 5 (.slice (some ⟨g, 0, none⟩) n cap) (out.set i ⟨r.f0, r.f1, x⟩).length ((out.set i ⟨r.f0, r.f1, x⟩).flatMap enRo) := by
  obtain ⟨h1, h2⟩ := h
  rcases h2 with ⟨h, _⟩ | ⟨g', cap', cur, hv, hb, hg, hn, h3, h4, h5⟩
  · cases h
  · cases hv
    have hlt := lt_of_get hi
    have hidx : i * 5 + 4 < out.length * 5 := by omega
    have hget : cur[i * 5 + 4]? = some (.int .i64 r.f2) := by
      have h6 : (cur.toList.take (out.length * 5))[i * 5 + 4]? = (out.flatMap enRo)[i * 5 + 4]? := by rw [h5]
      rw [List.getElem?_take_of_lt hidx, Array.getElem?_toList] at h6
      rw [h6]
      have h7 := get_flat (enc := enRo) (k := 5) enRo_len out i 4 hlt (by omega)
      have h8 : i * 5 + 4 < (out.flatMap enRo).length := by rw [len_flat enRo_len]; exact hidx
      have h9 : out[i]! = r := by simp [hi]
      rw [h9] at h7
      rw [List.getElem?_eq_getElem h8]
      rw [getElem!_pos (out.flatMap enRo) _ h8] at h7
      rw [h7]; rfl
    refine ⟨(blk_cell hg _).trans hget, blk_frozen hg _, by rw [len_flat enRo_len], .inr ⟨g, cap, cur.setIfInBounds (i * 5 + 4) (.int .i64 x), by simp, hb, ?_, by simpa using hn, h3, by simpa using h4, ?_⟩⟩
    · rw [setCell_eq]
      simp [mapBlock, Array.getElem?_modify, hg, onCells]
    · rw [List.length_set, Array.toList_setIfInBounds, List.take_set, h5, flat_set x out i r hi]

theorem MapIs.no {w : World} {b : Nat} {m : List (T × Int)} (h : MapIs w b m) : ∀ cs q fr, w.heap[b]? ≠ some (.cells cs q fr) := by
  obtain ⟨es, clock, h1, _⟩ := h
  exact fun _ _ _ e => (by rw [h1] at e; cases e)

set_option maxHeartbeats 4000000 in
set_option maxRecDepth 100000 in
theorem watch_Rows.calls (A0 : Option Addr) (c0 : Nat) (l0 : List Ch) (r : List Ro) (w : World) (hr0 : Kd.C k29 w A0 l0.length l0) (hc0 : l0.length ≤ c0) (h : watch_Rows.f l0 = some r) :
    Calls Try.prog 7 #[.slice A0 l0.length c0] w fun e w' => ∃ v0_ : Value, e = .returned (v0_) ∧ Kd.R k51 51 w' w.heap.size (fun _ => True) v0_ r ∧ Below w.heap.size w w' := by
  obtain ⟨ht, rfl⟩ : l0.length ≤ 1073741824 ∧ msort ltRo (rowsL l0) = r := by
    unfold watch_Rows.f tiny at h
    split at h
    · rename_i h1
      exact ⟨of_decide_eq_true h1, Option.some.inj h⟩
    · cases h
  have HR0 : Aside (Kd.C k29 w A0 l0.length l0) := hr0
  clear hr0 hc0 h
  have hmm := @run_makeMap Try.prog
  go_enter Try.func7, Try.ntmps7
  go_wp2
  clear hmm
  obtain ⟨B, hB⟩ : ∃ B, B = w.heap.size := ⟨_, rfl⟩
  have S0 : Aside (MapIs (w.alloc (.map #[] 0)) B [] ∧ Below B w (w.alloc (.map #[] 0)) ∧ B < (w.alloc (.map #[] 0)).heap.size) := by
    subst hB; exact ⟨MapIs.made w, (Below.refl _ w).alloc (Nat.le_refl _) _, by simp⟩
  rw [← hB]
  have HBe : Hid (B = w.heap.size) := hB
  clear hB
  go_loopg [3, 12] l0.length (fun gk s3 s12 wr => ∃ (i : Nat) (m : List (T × Int)) (out : List Ro), s12 = .int .i64 i ∧ i ≤ l0.length ∧ l0.length - i ≤ gk ∧ Hid (out = rowsL (l0.take i) ∧ Inv out m) ∧ Aside (MapIs wr B m ∧ Below B w wr ∧ B < wr.heap.size) ∧ Aside (Kd.R k51 51 wr B (fun _ => True) s3 out))
  case atStart => exact ⟨0, [], [], rfl, Nat.zero_le _, Nat.le_refl _, ⟨rfl, by simp, by simp⟩, S0, Kd.R_nil _ _ _ _ _⟩
  case round =>
    clear S0
    obtain ⟨i, m, out, rfl, hi, hg, HI, S1, HO⟩ := hrel
    have hol : out.length ≤ 1073741824 := by
      rw [HI.out.1]
      have := rows_len (l0.take i)
      have := List.length_take_le i l0
      omega
    by_cases hlt : i < l0.length
    · have hltz : (i : Int) < (l0.length : Int) := by omega
      obtain ⟨ad, x, hA, hx, h0, h1, h2, h3, h4⟩ := el_Ch HR0.out rfl i hlt
      have HBl : Below w.heap.size w wr := by rw [← HBe.out]; exact S1.out.2.1
      replace h0 := cell_below HBl h0
      replace h1 := cell_below HBl h1
      replace h2 := cell_below HBl h2
      replace h3 := cell_below HBl h3
      replace h4 := cell_below HBl h4
      clear HBl
      subst hA
      have hstep : rowsL (l0.take (i + 1)) = rowsDo out x := by
        unfold rowsL
        rw [take_step l0 i x hx, List.foldl_append, HI.out.1]; rfl
      obtain ⟨bx, hbxe⟩ : ∃ o, o = Obj.cells #[.int .i64 x.f0, .bool x.f1.f0, .string x.f1.f1.f0, .string x.f1.f1.f1, .string x.f1.f1.f2] 29 := ⟨_, rfl⟩
      have hM := S1.out.1.alloc bx
      have hBl := S1.out.2.1.alloc (by have := S1.out.2.2; omega) bx
      have hBs : B < (wr.alloc bx).heap.size := by have := S1.out.2.2; simp; omega
      have hO := Kd.R_alloc HO.out bx
      have hlook := look_T hM x.f1.f1
      have hnB := ne_row (fl_Ro hO) hM.no
      cases hq : mfind x.f1.f1 m 0 with
      | none =>
        rw [hq] at hlook
        have hany := HI.out.2.no hq
        by_cases hd : x.f1.f0 = true
        · -- not there, taken away: passed over
          have HI2 : Hid (out = rowsL (l0.take (i + 1)) ∧ Inv out m) := ⟨by rw [hstep, rowsDo, if_neg (by simp [hany]), if_pos hd], HI.out.2⟩
          have S2 : Aside (MapIs (wr.alloc bx) B m ∧ Below B w (wr.alloc bx) ∧ B < (wr.alloc bx).heap.size) := ⟨hM, hBl, hBs⟩
          have HO2 : Aside (Kd.R k51 51 (wr.alloc bx) B (fun _ => True) u3 out) := hO
          subst hbxe
          clear hM hBl hBs hO HI S1 HO hx hstep hq hany hnB
          obtain ⟨x0, x1, t0, t1, t2⟩ := x
          dsimp only at hd h0 h1 h2 h3 h4 hlook HO2 S2
          subst hd
          simp only [kv] at hlook
          go_wp2
          go_roundg (l0.length - (i + 1))
          case measure => omega
          case rel => exact ⟨i + 1, m, out, by first | rfl | go_num, by omega, Nat.le_refl _, HI2, S2.out, HO2.out⟩
        · -- not there, put: a new row
          have hd' : x.f1.f0 = false := by simpa using hd
          have HI2 : Hid (out ++ [⟨x.f1.f1, x.f0, 0⟩] = rowsL (l0.take (i + 1)) ∧ Inv (out ++ [⟨x.f1.f1, x.f0, 0⟩]) (mput x.f1.f1 (out.length : Nat) m)) := ⟨by rw [hstep, rowsDo, if_neg (by simp [hany]), if_neg hd], HI.out.2.put hq x.f0⟩
          obtain ⟨w1, hrun, hM1, hg1⟩ := put_T hM x.f1.f1 ((out.length : Nat) : Int)
          have hb1 := blk_grown (blk_new wr bx) hg1 (by have := S1.out.2.2; simp; omega)
          have hO1 := Kd.R_grown1 hO rfl hg1 hnB
          have hB1 := below_map hBl (by omega) hg1 (Nat.le_refl _)
          have hs1 : B < w1.heap.size := by have := hg1.size; omega
          have HW : Aside (MapIs w1 B (mput x.f1.f1 (out.length : Nat) m) ∧ Below B w w1 ∧ B < w1.heap.size ∧ Kd.R k51 51 w1 B (fun _ => True) u3 out ∧ some B ≠ u3.ownBlock ∧ out.length < 2147483648) := ⟨hM1, hB1, hs1, hO1, hnB, by omega⟩
          obtain ⟨A, c, hu⟩ : ∃ A c, u3 = .slice A out.length c := by
            rcases Go.Joins.ownsRow_forms (fl_Ro hO) with ⟨h, hn⟩ | ⟨g, cap, h⟩
            · exact ⟨none, 0, by rw [h, hn]⟩
            · exact ⟨_, _, h⟩
          subst hbxe
          clear hM hBl hBs hO HI S1 HO hx hstep hq hany hnB hM1 hg1 hO1 hB1 hs1
          obtain ⟨x0, x1, t0, t1, t2⟩ := x
          dsimp only at hd' h0 h1 h2 h3 h4 hlook HW HI2 hrun hb1
          subst hd'
          subst hu
          simp only [kv] at hlook hrun
          have e0 : w1.cell? ⟨wr.heap.size, 0, none⟩ = some (.int .i64 x0) := (blk_cell hb1 0).trans rfl
          have e2 : w1.cell? ⟨wr.heap.size, 2, none⟩ = some (.string t0) := (blk_cell hb1 2).trans rfl
          have e3 : w1.cell? ⟨wr.heap.size, 3, none⟩ = some (.string t1) := (blk_cell hb1 3).trans rfl
          have e4 : w1.cell? ⟨wr.heap.size, 4, none⟩ = some (.string t2) := (blk_cell hb1 4).trans rfl
          clear hb1
          go_wp2_with (at_builtin; refine app_Ro (w0 := w) B rfl (.tmp 59) (.tmp 66) rfl (.slice A out.length c) out ⟨⟨t0, t1, t2⟩, x0, 0⟩ rfl (by first | (go_simp; done) | (go_simp; rfl)) HW.out.2.2.2.1 HW.out.2.1 (by have := HW.out.2.2.1; omega) HW.out.2.2.2.2.2 ?_; intro v2 w2 ho hb hg2 hat; have HO2 : Aside _ := ho; have HB2 : Aside _ := hb; have HG2 : Aside _ := hg2; clear ho hb hg2 hat)
          go_roundg (l0.length - (i + 1))
          case measure => omega
          case rel => exact ⟨i + 1, _, _, by first | rfl | go_num, by omega, Nat.le_refl _, HI2, ⟨HW.out.1.kept (HG2.out.block _ HW.out.2.2.1 HW.out.2.2.2.2.1), HB2.out, by have := HG2.out.size; have := HW.out.2.2.1; omega⟩, HO2.out⟩
      | some q =>
        obtain ⟨p, v⟩ := q
        rw [hq] at hlook
        obtain ⟨i0, r, rfl, hi0, hr1, hr2, hany, hu⟩ := HI.out.2.yes hq
        by_cases hd : x.f1.f0 = true
        · -- there, taken away: its row is closed
          have hlt0 := lt_of_get hi0
          obtain ⟨g, cap, hform⟩ := Go.Joins.ownsRow_form (fl_Ro hO) (by omega)
          have hown := fl_Ro hO
          rw [hform] at hown
          obtain ⟨hc1, hc2, hown2⟩ := set_until hown hi0 x.f0
          have hgB : g ≠ B := by
            rintro rfl
            rw [hform] at hnB
            exact hnB (by simp [Value.ownBlock])
          have hgx : g ≠ wr.heap.size := by
            have h5 := (fl_Ro HO.out).lt g (by rw [hform]; simp [Value.ownBlock])
            omega
          have hgb : B ≤ g := ((fl_Ro HO.out).lt g (by rw [hform]; simp [Value.ownBlock])).1
          have hM1 := hM.kept (Below.heap_setCell (wr.alloc bx) ⟨g, i0 * 5 + 4, none⟩ (.int .i64 x.f0) B (Ne.symm hgB))
          have hB1 := hBl.setCell (p := ⟨g, i0 * 5 + 4, none⟩) hgb (.int .i64 x.f0)
          have hs1 : B < ((wr.alloc bx).setCell ⟨g, i0 * 5 + 4, none⟩ (.int .i64 x.f0)).heap.size := by simpa using hBs
          have hO1 := R_Ro hown2
          have hstep2 : rowsL (l0.take (i + 1)) = out.set i0 ⟨r.f0, r.f1, x.f0⟩ := by
            rw [hstep, rowsDo, if_pos hany, if_pos hd, close_map hi0 hr1 hr2 hu]
          have hi0z : (i0 : Int) < (out.length : Int) := by omega
          have hi0p : (0 : Int) ≤ (i0 : Int) := by omega
          have hx0 : ((wr.alloc bx).setCell ⟨g, i0 * 5 + 4, none⟩ (.int .i64 x.f0)).heap[wr.heap.size]? = some bx := (Below.heap_setCell _ _ _ _ (Ne.symm hgx)).trans (blk_new wr bx)
          by_cases hz : x.f0 = 0
          · have hsame : out.set i0 ⟨r.f0, r.f1, x.f0⟩ = out := by rw [hz]; exact set_same hi0 hr2
            have HI2 : Hid (out = rowsL (l0.take (i + 1)) ∧ Inv out m) := ⟨by rw [hstep2, hsame], HI.out.2⟩
            rw [hsame] at hO1
            have S2 : Aside (MapIs _ B m ∧ Below B w _ ∧ B < _) := ⟨hM1, hB1, hs1⟩
            have HO2 : Aside (Kd.R k51 51 _ B (fun _ => True) (.slice (some ⟨g, 0, none⟩) out.length cap) out) := hO1
            have e0 : ((wr.alloc bx).setCell ⟨g, i0 * 5 + 4, none⟩ (.int .i64 x.f0)).cell? ⟨wr.heap.size, 0, none⟩ = some (.int .i64 x.f0) := by subst hbxe; exact (blk_cell hx0 0).trans rfl
            have hdz : (x.f0 != 0) = false := by simp [hz]
            subst hbxe
            clear hM hBl hBs hO HI S1 HO hx hstep hq hany hnB hM1 hO1 hB1 hs1 hstep2 hown hown2 hu hsame hx0
            obtain ⟨x0, x1, t0, t1, t2⟩ := x
            dsimp only at hd hz hdz h0 h1 h2 h3 h4 hlook HO2 S2 e0 hc1 hc2
            subst hd
            subst hz
            subst hform
            simp only [kv] at hlook
            go_wp2
            go_roundg (l0.length - (i + 1))
            case measure => omega
            case rel => exact ⟨i + 1, m, out, by first | rfl | go_num, by omega, Nat.le_refl _, HI2, S2.out, HO2.out⟩
          · obtain ⟨w2, hrun2, hM2, hg2⟩ := del_T hM1 x.f1.f1
            have HI2 : Hid (out.set i0 ⟨r.f0, r.f1, x.f0⟩ = rowsL (l0.take (i + 1)) ∧ Inv (out.set i0 ⟨r.f0, r.f1, x.f0⟩) (mdel x.f1.f1 m)) := ⟨hstep2.symm, HI.out.2.close hi0 hr1 hu x.f0 hz⟩
            have hnB2 : some B ≠ (Value.slice (some ⟨g, 0, none⟩) out.length cap).ownBlock := by
              intro e; simp [Value.ownBlock] at e; exact hgB e.symm
            have hO2 := Kd.R_grown1 hO1 rfl hg2 hnB2
            have hB2 := below_map hB1 (by omega) hg2 (Nat.le_refl _)
            have S2 : Aside (MapIs w2 B (mdel x.f1.f1 m) ∧ Below B w w2 ∧ B < w2.heap.size) := ⟨hM2, hB2, by have := hg2.size; omega⟩
            have HO2 : Aside (Kd.R k51 51 w2 B (fun _ => True) (.slice (some ⟨g, 0, none⟩) out.length cap) (out.set i0 ⟨r.f0, r.f1, x.f0⟩)) := hO2
            have e0 : ((wr.alloc bx).setCell ⟨g, i0 * 5 + 4, none⟩ (.int .i64 x.f0)).cell? ⟨wr.heap.size, 0, none⟩ = some (.int .i64 x.f0) := by subst hbxe; exact (blk_cell hx0 0).trans rfl
            have e2 : ((wr.alloc bx).setCell ⟨g, i0 * 5 + 4, none⟩ (.int .i64 x.f0)).cell? ⟨wr.heap.size, 2, none⟩ = some (.string x.f1.f1.f0) := by subst hbxe; exact (blk_cell hx0 2).trans rfl
            have e3 : ((wr.alloc bx).setCell ⟨g, i0 * 5 + 4, none⟩ (.int .i64 x.f0)).cell? ⟨wr.heap.size, 3, none⟩ = some (.string x.f1.f1.f1) := by subst hbxe; exact (blk_cell hx0 3).trans rfl
            have e4 : ((wr.alloc bx).setCell ⟨g, i0 * 5 + 4, none⟩ (.int .i64 x.f0)).cell? ⟨wr.heap.size, 4, none⟩ = some (.string x.f1.f1.f2) := by subst hbxe; exact (blk_cell hx0 4).trans rfl
            have hdz : (x.f0 != 0) = true := by simp [hz]
            subst hbxe
            clear hM hBl hBs hO HI S1 HO hx hstep hq hany hnB hM1 hO1 hB1 hs1 hstep2 hown hown2 hu hx0 hM2 hg2 hnB2 hO2 hB2
            obtain ⟨x0, x1, t0, t1, t2⟩ := x
            dsimp only at hd hz hdz h0 h1 h2 h3 h4 hlook hrun2 HO2 S2 HI2 e0 e2 e3 e4 hc1 hc2
            subst hd
            subst hform
            simp only [kv] at hlook hrun2
            go_wp2
            go_roundg (l0.length - (i + 1))
            case measure => omega
            case rel => exact ⟨i + 1, _, _, by first | rfl | go_num, by omega, Nat.le_refl _, HI2, S2.out, HO2.out⟩
        · -- there, put: passed over
          have hd' : x.f1.f0 = false := by simpa using hd
          have HI2 : Hid (out = rowsL (l0.take (i + 1)) ∧ Inv out m) := ⟨by rw [hstep, rowsDo, if_pos hany, if_neg hd], HI.out.2⟩
          have S2 : Aside (MapIs (wr.alloc bx) B m ∧ Below B w (wr.alloc bx) ∧ B < (wr.alloc bx).heap.size) := ⟨hM, hBl, hBs⟩
          have HO2 : Aside (Kd.R k51 51 (wr.alloc bx) B (fun _ => True) u3 out) := hO
          subst hbxe
          clear hM hBl hBs hO HI S1 HO hx hstep hq hany hnB hu
          obtain ⟨x0, x1, t0, t1, t2⟩ := x
          dsimp only at hd' h0 h1 h2 h3 h4 hlook HO2 S2
          subst hd'
          simp only [kv] at hlook
          go_wp2
          go_roundg (l0.length - (i + 1))
          case measure => omega
          case rel => exact ⟨i + 1, m, out, by first | rfl | go_num, by omega, Nat.le_refl _, HI2, S2.out, HO2.out⟩
    · have hltz : ¬ (i : Int) < (l0.length : Int) := by omega
      have HACC : Hid (out = rowsL l0) := by show _ = _; rw [HI.out.1, List.take_of_length_le (by omega)]
      have hs := sort_Ro B u3 out wr (fl_Ro HO.out) (by omega)
      have HSo : Hid (type_of% hs) := hs
      have HF : Aside (wr.ownsRow B 51 5 u3 out.length (out.flatMap enRo)) := fl_Ro HO.out
      clear hs HI HO
      go_wp2_with (go_at_call 21; refine HSo.out.mono ?_; rintro e w1 ⟨rfl, ho1, hg1⟩; have HO1 : Aside _ := ho1; have HG1 : Aside _ := hg1; clear ho1 hg1)
      go_ret
      refine ⟨_, rfl, ?_, ?_⟩
      · rw [← HACC.out, ← HBe.out]; exact R_Ro HO1.out
      · rw [← HBe.out]; exact below_grown S1.out.2.1 HG1.out (by have := S1.out.2.2; omega) HF.out
end Go.Proofs.Ytgdmdhhihoifkaa.Pr

namespace Go.Proofs.Ytgdmdhhihoifkaa.Pr
open Go.Proofs.Ytgdmdhhihoifkaa Go.Sort Go.RowKit

theorem playE_len : ∀ (cs : List Ch) (acc : List T), (cs.foldl playDo acc).length ≤ acc.length + cs.length := by
  intro cs
  induction cs with
  | nil => intro acc; simp
  | cons t ts ih =>
    intro acc
    have h := ih (playDo acc t)
    have h1 : (playDo acc t).length ≤ acc.length + 1 := by
      unfold playDo
      split
      · exact Nat.le_trans (List.length_filter_le _ _) (by omega)
      · unfold putT; split <;> simp
    rw [List.foldl_cons, List.length_cons]; omega
/-- The last revision that the law takes. -/
abbrev top : Int := 1125899906842624
def riseDo (s : Int × List Ch) (c : Ch) : Int × List Ch := if c.f0 > s.1 then (if c.f0 ≤ top then (c.f0, s.2 ++ [c]) else s) else s
def riseL (l : List Ch) : List Ch := (l.foldl riseDo (0, [])).2
/-- Rising, and within the bounds. -/
def Rising (l : List Ch) : Prop := l.Pairwise (fun a b => a.f0 < b.f0) ∧ ∀ c ∈ l, 0 < c.f0 ∧ c.f0 ≤ top
theorem rise_inv : ∀ (l : List Ch) (s : Int × List Ch), Rising s.2 → 0 ≤ s.1 → (∀ c ∈ s.2, c.f0 ≤ s.1) → Rising (l.foldl riseDo s).2 ∧ (l.foldl riseDo s).2.length ≤ s.2.length + l.length := by
  intro l
  induction l with
  | nil => intro s h _ _; exact ⟨h, by simp⟩
  | cons c l ih =>
    intro s h h0 hm
    rw [List.foldl_cons]
    have hs : riseDo s c = s ∨ (c.f0 > s.1 ∧ c.f0 ≤ top ∧ riseDo s c = (c.f0, s.2 ++ [c])) := by
      unfold riseDo
      by_cases h1 : c.f0 > s.1
      · by_cases h2 : c.f0 ≤ top
        · exact .inr ⟨h1, h2, by rw [if_pos h1, if_pos h2]⟩
        · exact .inl (by rw [if_pos h1, if_neg h2])
      · exact .inl (by rw [if_neg h1])
    rcases hs with e | ⟨h1, h2, e⟩
    · rw [e]
      obtain ⟨a, b⟩ := ih s h h0 hm
      exact ⟨a, by simp; omega⟩
    · rw [e]
      obtain ⟨a, b⟩ := ih (c.f0, s.2 ++ [c]) ⟨List.pairwise_append.2 ⟨h.1, by simp, fun x hx y hy => by simp at hy; subst hy; have := hm x hx; omega⟩, fun x hx => by
        rcases List.mem_append.1 hx with hx | hx
        · exact h.2 x hx
        · simp at hx; subst hx; exact ⟨by omega, h2⟩⟩ (by show 0 ≤ c.f0; omega) (fun x hx => by
        show x.f0 ≤ c.f0
        rcases List.mem_append.1 hx with hx | hx
        · have := hm x hx; omega
        · simp at hx; subst hx; omega)
      refine ⟨a, Nat.le_trans b ?_⟩
      simp; omega
theorem rise_ok (l : List Ch) : Rising (riseL l) ∧ (riseL l).length ≤ l.length := by
  have := rise_inv l (0, []) ⟨List.Pairwise.nil, by simp⟩ (by simp) (by simp)
  simpa [riseL] using this

/-! ### what does something -/
def acts (out : List Ro) (c : Ch) : Bool := out.any (openAt c.f1.f1) == c.f1.f0
def effL : List Ro → List Ch → List Ch
  | _, [] => []
  | out, c :: l => if acts out c = true then c :: effL (rowsDo out c) l else effL (rowsDo out c) l
theorem idle {out : List Ro} {c : Ch} (h : ¬ acts out c = true) : rowsDo out c = out := by
  unfold acts at h
  unfold rowsDo
  cases h1 : out.any (openAt c.f1.f1) <;> cases h2 : c.f1.f0 <;> rw [h1, h2] at h <;> simp at h ⊢
theorem eff_rows : ∀ (l : List Ch) (out : List Ro), (effL out l).foldl rowsDo out = l.foldl rowsDo out
  | [], out => rfl
  | c :: l, out => by
    rw [effL]
    by_cases h : acts out c = true
    · rw [if_pos h, List.foldl_cons, List.foldl_cons, eff_rows l]
    · rw [if_neg h, List.foldl_cons, idle h, eff_rows l]
theorem eff_sub : ∀ (l : List Ch) (out : List Ro), (effL out l).Sublist l
  | [], _ => List.Sublist.slnil
  | c :: l, out => by
    rw [effL]
    split
    · exact (eff_sub l _).cons_cons c
    · exact (eff_sub l _).cons c

/-! ### the rows tell what did something -/
/-- Rows as a run leaves them: behind 0 and no later than b, those closed later than begun. -/
def RowsOk (b : Int) (out : List Ro) : Prop := One out ∧ ∀ r ∈ out, 0 < r.f1 ∧ r.f1 ≤ b ∧ (r.f2 = 0 ∨ (r.f1 < r.f2 ∧ r.f2 ≤ b))
theorem RowsOk.mono {b b' : Int} {out : List Ro} (h : RowsOk b out) (hb : b ≤ b') : RowsOk b' out :=
  ⟨h.1, fun r hr => by obtain ⟨a, c, d⟩ := h.2 r hr; refine ⟨a, by omega, ?_⟩; rcases d with d | d; exact .inl d; exact .inr ⟨d.1, by omega⟩⟩
theorem chOf_open (t : T) (x : Int) (h0 : 0 < x) (h1 : x ≤ top) : chOf 0 top ⟨t, x, 0⟩ = [⟨x, ⟨false, t⟩⟩] := by
  unfold chOf chIf
  rw [if_neg (by simp), if_pos ⟨h0, h1⟩, if_neg (by simp)]; rfl
theorem chOf_shut (t : T) (x y : Int) (h0 : 0 < x) (h1 : x < y) (h2 : y ≤ top) : chOf 0 top ⟨t, x, y⟩ = [⟨x, ⟨false, t⟩⟩, ⟨y, ⟨true, t⟩⟩] := by
  unfold chOf chIf
  rw [if_neg (by simp; intro _; omega), if_pos ⟨h0, by show x ≤ top; omega⟩, if_pos (by simp; omega), if_pos ⟨by show 0 < y; omega, h2⟩]; rfl
theorem tell_step {b : Int} {out : List Ro} {c : Ch} (h : RowsOk b out) (hb : b ≤ top) (hc : b < c.f0) (hc0 : 0 < c.f0) (hct : c.f0 ≤ top) (ha : acts out c = true) :
    RowsOk c.f0 (rowsDo out c) ∧ ((rowsDo out c).flatMap (chOf 0 top)).Perm (out.flatMap (chOf 0 top) ++ [c]) := by
  have hOne := h.1.next c
  obtain ⟨x, ⟨d, t⟩⟩ := c
  simp only at hc hc0 hct ha hOne ⊢
  unfold acts at ha
  simp only at ha
  cases d with
  | false =>
    have hn : out.any (openAt t) = false := by simpa using ha
    have e : rowsDo out ⟨x, ⟨false, t⟩⟩ = out ++ [⟨t, x, 0⟩] := by unfold rowsDo; rw [if_neg (by simp [hn]), if_neg (by simp)]
    rw [e] at hOne ⊢
    refine ⟨⟨hOne, fun r hr => ?_⟩, ?_⟩
    · rcases List.mem_append.1 hr with hr | hr
      · exact (h.mono (by omega : b ≤ x)).2 r hr
      · simp at hr; subst hr; exact ⟨hc0, Int.le_refl _, .inl rfl⟩
    · rw [List.flatMap_append, List.flatMap_singleton, chOf_open t x hc0 hct]
  | true =>
    have hy : out.any (openAt t) = true := by simpa using ha
    rcases open_cases h.1 t with hn | ⟨P, r, Q, ho, hr, hP, hQ⟩
    · obtain ⟨r, hr, hq⟩ := List.any_eq_true.1 hy
      rw [hn r hr] at hq; cases hq
    · have hm : ∀ l : List Ro, (∀ r ∈ l, openAt t r = false) → l.map (fun r => if openAt t r = true then (⟨r.f0, r.f1, x⟩ : Ro) else r) = l := by
        intro l hl
        conv => rhs; rw [← List.map_id l]
        refine List.map_congr_left fun r hr => ?_
        rw [if_neg (by rw [hl r hr]; simp)]; rfl
      have e : rowsDo out ⟨x, ⟨true, t⟩⟩ = P ++ ⟨r.f0, r.f1, x⟩ :: Q := by
        unfold rowsDo
        rw [if_pos hy, if_pos rfl, ho, List.map_append, List.map_cons, hm P hP, hm Q hQ, if_pos hr]
      rw [e] at hOne ⊢
      obtain ⟨r0, r1, r2⟩ := r
      have hro := openAt_iff.1 hr
      simp only at hro hOne ⊢
      obtain ⟨rfl, rfl⟩ := hro
      have hrow := h.2 ⟨r0, r1, 0⟩ (by rw [ho]; simp)
      simp only at hrow
      refine ⟨⟨hOne, fun u hu => ?_⟩, ?_⟩
      · rcases List.mem_append.1 hu with hu | hu
        · exact (h.mono (by omega : b ≤ x)).2 u (by rw [ho]; simp [hu])
        · rcases List.mem_cons.1 hu with rfl | hu
          · exact ⟨hrow.1, by show r1 ≤ x; omega, .inr ⟨by show r1 < x; omega, Int.le_refl _⟩⟩
          · exact (h.mono (by omega : b ≤ x)).2 u (by rw [ho]; simp [hu])
      · rw [ho, List.flatMap_append, List.flatMap_cons, List.flatMap_append, List.flatMap_cons, chOf_open r0 r1 hrow.1 (by omega), chOf_shut r0 r1 x hrow.1 (by omega) hct]
        simp only [List.append_assoc]
        refine List.Perm.append_left _ ?_
        simp only [List.cons_append, List.nil_append]
        refine List.Perm.cons _ ?_
        exact (List.perm_append_singleton _ _).symm
theorem tell : ∀ (l : List Ch) (out : List Ro) (b : Int), RowsOk b out → 0 ≤ b → b ≤ top → Rising l → (∀ c ∈ l, b < c.f0) →
    ((l.foldl rowsDo out).flatMap (chOf 0 top)).Perm (out.flatMap (chOf 0 top) ++ effL out l)
  | [], out, _, _, _, _, _, _ => by simp [effL]
  | c :: l, out, b, h, h0, hb, hR, hm => by
    have hR' := List.pairwise_cons.1 hR.1
    have hc := hR.2 c (by simp)
    have hbc := hm c (by simp)
    have hRl : Rising l := ⟨hR'.2, fun x hx => hR.2 x (List.mem_cons_of_mem _ hx)⟩
    rw [List.foldl_cons, effL]
    by_cases ha : acts out c = true
    · rw [if_pos ha]
      obtain ⟨s1, s2⟩ := tell_step h hb hbc hc.1 hc.2 ha
      have ih := tell l (rowsDo out c) c.f0 s1 (by omega) hc.2 hRl hR'.1
      refine ih.trans ?_
      refine (s2.append_right _).trans ?_
      simp
    · rw [if_neg ha, idle ha]
      exact tell l out b h h0 hb hRl (fun x hx => hm x (List.mem_cons_of_mem _ hx))
theorem rising_sorted {l : List Ch} (h : l.Pairwise (fun a b => a.f0 < b.f0)) : SortedL ltCh l ∧ ∀ x ∈ l, ∀ y ∈ l, ltCh x y = false → ltCh y x = false → x = y := by
  have key : ∀ a b : Ch, a.f0 < b.f0 → ltCh a b = true := by
    intro a b hab
    unfold ltCh ltOf cmpCh lexi
    have h1 := compareInt_neg.2 hab
    have h2 : Lib.compareInt a.f0 b.f0 ≠ 0 := by omega
    rw [if_neg h2]; exact decide_eq_true h1
  constructor
  · refine h.imp fun {a b} hab => ?_
    cases hq : ltCh b a with
    | false => rfl
    | true => have := swoCh.trans _ _ _ (key a b hab) hq; rw [swoCh.irrefl] at this; cases this
  · induction h with
    | nil => intro x hx; cases hx
    | cons hd _ ih =>
      intro x hx y hy h1 h2
      rcases List.mem_cons.1 hx with ex | hx' <;> rcases List.mem_cons.1 hy with ey | hy'
      · rw [ex, ey]
      · subst ex; rw [key _ _ (hd y hy')] at h1; cases h1
      · subst ey; rw [key _ _ (hd x hx')] at h2; cases h2
      · exact ih x hx' y hy' h1 h2
theorem again_eq (l : List Ch) (h : Rising l) : msort ltCh ((msort ltRo (rowsL l)).flatMap (chOf 0 top)) = effL [] l := by
  have hp : ((msort ltRo (rowsL l)).flatMap (chOf 0 top)).Perm (effL [] l) := by
    refine ((msort_perm ltRo (rowsL l)).flatMap_right _).trans ?_
    have := tell l [] 0 ⟨List.Pairwise.nil, by simp⟩ (by omega) (by show (0 : Int) ≤ top; simp [top]) h (fun c hc => (h.2 c hc).1)
    simpa [rowsL] using this
  have hs := rising_sorted (h.1.sublist (eff_sub l []))
  refine (sorted_perm_eq swoCh hs.1 (msort_sorted swoCh _) (hp.symm.trans (msort_perm ltCh _).symm) hs.2).symm

/-! ### both play alike -/
theorem play_open {acc : List T} {out : List Ro} (h : ∀ t, t ∈ acc ↔ out.any (openAt t) = true) (c : Ch) (h0 : c.f0 ≠ 0) : ∀ t, t ∈ playDo acc c ↔ (rowsDo out c).any (openAt t) = true := by
  intro t
  obtain ⟨x, ⟨d, u⟩⟩ := c
  have hu := h u
  have ht := h t
  unfold playDo rowsDo
  simp only at h0 ⊢
  cases d with
  | false =>
    simp only [Bool.false_eq_true, if_false]
    unfold putT
    by_cases hm : u ∈ acc
    · rw [if_pos hm, if_pos (hu.1 hm)]; exact ht
    · rw [if_neg hm, if_neg (fun q => hm (hu.2 q)), List.any_append, Bool.or_eq_true, ← ht]
      simp [openAt, eq_comm]
  | true =>
    simp only [if_true]
    by_cases hm : u ∈ acc
    · rw [if_pos (hu.1 hm), List.mem_filter, ht]
      simp only [List.any_eq_true, List.mem_map]
      constructor
      · rintro ⟨⟨r, hr, ho⟩, hne⟩
        have hne : t ≠ u := of_decide_eq_true hne
        have h1 := openAt_iff.1 ho
        refine ⟨r, ⟨r, hr, ?_⟩, ho⟩
        rw [if_neg]
        intro q
        exact hne (h1.1.symm.trans (openAt_iff.1 q).1)
      · rintro ⟨r', ⟨r, hr, rfl⟩, ho⟩
        by_cases hq : openAt u r = true
        · rw [if_pos hq] at ho
          exact absurd (openAt_iff.1 ho).2 h0
        · rw [if_neg hq] at ho
          refine ⟨⟨r, hr, ho⟩, decide_eq_true ?_⟩
          rintro rfl
          exact hq ho
    · rw [if_neg (fun q => hm (hu.2 q)), List.mem_filter, ht]
      constructor
      · exact fun q => q.1
      · intro q
        refine ⟨q, decide_eq_true ?_⟩
        rintro rfl
        exact hm (hu.2 q)
theorem play_idle {acc : List T} {out : List Ro} (h : ∀ t, t ∈ acc ↔ out.any (openAt t) = true) (c : Ch) (ha : ¬ acts out c = true) : playDo acc c = acc := by
  have hu := h c.f1.f1
  unfold acts at ha
  unfold playDo putT
  cases h1 : out.any (openAt c.f1.f1) <;> cases h2 : c.f1.f0 <;> rw [h1, h2] at ha
  · simp at ha
  · rw [if_pos rfl]
    refine List.filter_eq_self.2 fun t ht => decide_eq_true ?_
    rintro rfl
    rw [h1] at hu
    exact absurd (hu.1 ht) (by simp)
  · rw [if_neg (by simp), if_pos (hu.2 h1)]
  · simp at ha
theorem eff_play : ∀ (l : List Ch) (out : List Ro) (acc : List T), (∀ t, t ∈ acc ↔ out.any (openAt t) = true) → (∀ c ∈ l, c.f0 ≠ 0) → (effL out l).foldl playDo acc = l.foldl playDo acc
  | [], _, _, _, _ => rfl
  | c :: l, out, acc, h, h0 => by
    have hc := h0 c (by simp)
    have hn := play_open h c hc
    have h0' : ∀ c ∈ l, c.f0 ≠ 0 := fun x hx => h0 x (List.mem_cons_of_mem _ hx)
    rw [effL]
    by_cases ha : acts out c = true
    · rw [if_pos ha, List.foldl_cons, List.foldl_cons]
      exact eff_play l _ _ hn h0'
    · rw [if_neg ha, List.foldl_cons, play_idle h c ha, idle ha]
      exact eff_play l out acc h h0'
theorem play_eff (l : List Ch) (h : Rising l) : playL [] (effL [] l) = playL [] l := by
  unfold playL
  exact eff_play l [] [] (by simp) (fun c hc => by have := (h.2 c hc).1; omega)
theorem rows_eff (l : List Ch) : rowsL (effL [] l) = rowsL l := eff_rows l []

theorem eqx_Ch (x y : Ch) : ((x.f0 == y.f0) && ((x.f1.f0 == y.f1.f0) && ((x.f1.f1.f0.toList == y.f1.f1.f0.toList) && ((x.f1.f1.f1.toList == y.f1.f1.f1.toList) && (x.f1.f1.f2.toList == y.f1.f1.f2.toList))))) = true ↔ x = y := by
  rw [eqx_T]
  obtain ⟨a, ⟨b, c⟩⟩ := x
  obtain ⟨a', ⟨b', c'⟩⟩ := y
  simp
end Go.Proofs.Ytgdmdhhihoifkaa.Pr

namespace Go.Proofs.Ytgdmdhhihoifkaa.Pr
open Go.RowKit Go.Proofs.YtgdmdhhihoifkaaW.PrintWords Go.Proofs.YtgdmdhhihoifkaaW.PrintLast Go.Proofs.YtgdmdhhihoifkaaW.PrintMore
attribute [local go_sem] max2_int min2_int max_two min_two max_three min_three max_four min_four   -- for this text's walks alone
set_option linter.unusedVariables false
set_option linter.unusedSimpArgs false

theorem eqA51 (d : Nat) (w : World) (x0 y0 : ByteArray) (x1 y1 : ByteArray) (x2 y2 : ByteArray) (x3 y3 : Int) (x4 y4 : Int) :
    (Op.equalIn (d + 3) 51 (.agg #[.string x0, .string x1, .string x2, .int .i64 x3, .int .i64 x4]) (.agg #[.string y0, .string y1, .string y2, .int .i64 y3, .int .i64 y4])).run Try.prog w = .ok ((x0.toList == y0.toList && (x1.toList == y1.toList && (x2.toList == y2.toList))) && (x3 == y3 && (x4 == y4))) w := by
  refine eqA_of Try.underlying51 (by kernel_rfl) ?_
  refine eqf_cons (by rfl) (by go_simp) (by go_simp) (eqA25 (d + 0) w _ _ _ _ _ _) ?_
  refine eqf_cons (by rfl) (by go_simp; rfl) (by go_simp; rfl) (by go_simp) ?_
  exact eqf_last (by rfl) (by go_simp; rfl) (by go_simp; rfl) (by go_simp)
end Go.Proofs.Ytgdmdhhihoifkaa.Pr

namespace Go.Proofs.Ytgdmdhhihoifkaa.Pr
open Go.Shelf Go.RowKit Go.Lib Go.Sort Go.Proofs.Ytgdmdhhihoifkaa
open Go.Proofs.YtgdmdhhihoifkaaW.PrintWords Go.Proofs.YtgdmdhhihoifkaaW.PrintLast Go.Proofs.YtgdmdhhihoifkaaW.PrintMore

set_option maxHeartbeats 4000000 in
set_option maxRecDepth 100000 in
theorem watch_At.calls (A0 : Option Addr) (c0 : Nat) (l0 : List Ro) (a1 : Int) (r : List T) (w : World) (hr0 : Kd.C k51 w A0 l0.length l0) (hc0 : l0.length ≤ c0) (h : watch_At.f l0 a1 = some r) :
    Calls Try.prog 18 #[.slice A0 l0.length c0, .int .i64 a1] w fun e w' => ∃ v0_ : Value, e = .returned (v0_) ∧ Kd.R k25 25 w' w.heap.size (fun _ => True) v0_ r ∧ Below w.heap.size w w' := by
  obtain ⟨ht, rfl⟩ : l0.length ≤ 1073741824 ∧ compactL (msort ltT ((l0.filter (thereAt a1)).map (·.f0))) = r := by
    unfold watch_At.f tiny at h
    split at h
    · rename_i h1
      exact ⟨of_decide_eq_true h1, Option.some.inj h⟩
    · cases h
  have HR0 : Aside (Kd.C k51 w A0 l0.length l0) := hr0
  have HT : Aside (l0.length ≤ 1073741824) := ht
  clear hr0 hc0 h
  go_enter Try.func18, Try.ntmps18
  go_wp2
  go_loopg [5, 10] l0.length (fun gk s5 s10 wr => ∃ (i : Nat) (acc : List T), s10 = .int .i64 i ∧ i ≤ l0.length ∧ l0.length - i ≤ gk ∧ Hid (acc = ((l0.take i).filter (thereAt a1)).map (·.f0)) ∧ Aside (Kd.R k25 25 wr w.heap.size (fun _ => True) s5 acc) ∧ Aside (Below w.heap.size w wr))
  case atStart => exact ⟨0, [], rfl, Nat.zero_le _, Nat.le_refl _, rfl, Kd.R_nil _ _ _ _ _, Below.refl _ _⟩
  case round =>
    obtain ⟨i, acc, rfl, hi, hg, HA, HO, HB⟩ := hrel
    by_cases hlt : i < l0.length
    · have hltz : (i : Int) < (l0.length : Int) := by omega
      obtain ⟨ad, x, rfl, hx, h0, h1, h2, h3, h4⟩ := el_Ro HR0.out rfl i hlt
      replace h0 := cell_below HB.out h0
      replace h1 := cell_below HB.out h1
      replace h2 := cell_below HB.out h2
      replace h3 := cell_below HB.out h3
      replace h4 := cell_below HB.out h4
      have hsz := HB.out.size
      have hal : acc.length < 4294967296 := by
        rw [HA.out, List.length_map]
        have q1 := List.length_filter_le (thereAt a1) (l0.take i)
        have q2 := List.length_take_le i l0
        have q3 := HT.out
        omega
      have HL : Aside (acc.length < 4294967296 ∧ w.heap.size ≤ wr.heap.size) := ⟨hal, hsz⟩
      have HS : Hid (((l0.take (i + 1)).filter (thereAt a1)).map (·.f0) = acc ++ (if thereAt a1 x = true then [x.f0] else [])) := by
        show _ = _
        rw [HA.out, take_step l0 i x hx, List.filter_append, List.map_append]
        congr 1
        cases hq : thereAt a1 x <;> simp [hq]
      have HT2 : Hid (thereAt a1 x = decide (x.f1 ≤ a1 ∧ (x.f2 = 0 ∨ a1 < x.f2))) := rfl
      clear HA hal hsz hx
      obtain ⟨⟨t0, t1, t2⟩, x1, x2⟩ := x
      dsimp only at h0 h1 h2 h3 h4
      by_cases c1 : x1 ≤ a1
      · have d1 : decide (x1 ≤ a1) = true := decide_eq_true c1
        by_cases c2 : x2 = 0
        · have d2 : (x2 == 0) = true := by simp [c2]
          have hq : Hid (((l0.take (i + 1)).filter (thereAt a1)).map (·.f0) = acc ++ [⟨t0, t1, t2⟩]) := by
            show _ = _
            rw [HS.out, if_pos (by rw [HT2.out]; exact decide_eq_true ⟨c1, .inl c2⟩)]
          clear HS HT2
          go_wp2_with (at_builtin; refine app_T (w0 := w) w.heap.size rfl (.tmp 29) (.tmp 32) rfl u5 acc ⟨t0, t1, t2⟩ rfl (by first | (go_simp; done) | (go_simp; rfl)) ?aO ?aB ?aS HL.out.1 ?_; (case aO => exact Kd.R_alloc HO.out _); (case aB => exact HB.out.alloc HL.out.2 _); (case aS => have := HL.out.2; simp; omega); intro v1 w1 ho hb hg1 hat; have HO1 : Aside _ := ho; have HB1 : Aside _ := hb; clear ho hb hg1 hat)
          go_roundg (l0.length - (i + 1))
          case measure => omega
          case rel => exact ⟨i + 1, _, by first | rfl | go_num, by omega, Nat.le_refl _, hq.out.symm, HO1.out, HB1.out⟩
        · have d2 : (x2 == 0) = false := by simp [c2]
          by_cases c3 : a1 < x2
          · have d3 : decide (a1 < x2) = true := decide_eq_true c3
            have hq : Hid (((l0.take (i + 1)).filter (thereAt a1)).map (·.f0) = acc ++ [⟨t0, t1, t2⟩]) := by
              show _ = _
              rw [HS.out, if_pos (by rw [HT2.out]; exact decide_eq_true ⟨c1, .inr c3⟩)]
            clear HS HT2
            go_wp2_with (at_builtin; refine app_T (w0 := w) w.heap.size rfl (.tmp 29) (.tmp 32) rfl u5 acc ⟨t0, t1, t2⟩ rfl (by first | (go_simp; done) | (go_simp; rfl)) ?aO ?aB ?aS HL.out.1 ?_; (case aO => exact Kd.R_alloc HO.out _); (case aB => exact HB.out.alloc HL.out.2 _); (case aS => have := HL.out.2; simp; omega); intro v1 w1 ho hb hg1 hat; have HO1 : Aside _ := ho; have HB1 : Aside _ := hb; clear ho hb hg1 hat)
            go_roundg (l0.length - (i + 1))
            case measure => omega
            case rel => exact ⟨i + 1, _, by first | rfl | go_num, by omega, Nat.le_refl _, hq.out.symm, HO1.out, HB1.out⟩
          · have d3 : decide (a1 < x2) = false := decide_eq_false c3
            have hq : Hid (((l0.take (i + 1)).filter (thereAt a1)).map (·.f0) = acc) := by
              show _ = _
              rw [HS.out, if_neg (by rw [HT2.out, decide_eq_true_eq]; dsimp only; omega), List.append_nil]
            clear HS HT2
            go_wp2
            go_roundg (l0.length - (i + 1))
            case measure => omega
            case rel => exact ⟨i + 1, acc, by first | rfl | go_num, by omega, Nat.le_refl _, hq.out.symm, Kd.R_alloc HO.out _, HB.out.alloc HL.out.2 _⟩
      · have d1 : decide (x1 ≤ a1) = false := decide_eq_false c1
        have hq : Hid (((l0.take (i + 1)).filter (thereAt a1)).map (·.f0) = acc) := by
          show _ = _
          rw [HS.out, if_neg (by rw [HT2.out, decide_eq_true_eq]; dsimp only; omega), List.append_nil]
        clear HS HT2
        go_wp2
        go_roundg (l0.length - (i + 1))
        case measure => omega
        case rel => exact ⟨i + 1, acc, by first | rfl | go_num, by omega, Nat.le_refl _, hq.out.symm, Kd.R_alloc HO.out _, HB.out.alloc HL.out.2 _⟩
    · have hltz : ¬ (i : Int) < (l0.length : Int) := by omega
      have hacc : acc = (l0.filter (thereAt a1)).map (·.f0) := by rw [HA.out, List.take_of_length_le (by omega)]
      have hal : acc.length < 4611686018427387904 := by
        rw [hacc, List.length_map]
        have q1 := List.length_filter_le (thereAt a1) l0
        have q3 := HT.out
        omega
      have HACC : Hid (acc = (l0.filter (thereAt a1)).map (·.f0)) := hacc
      clear hacc HA
      have hs := sort_T w.heap.size u5 acc wr (fl_T HO.out) hal
      have HSo : Hid (type_of% hs) := hs
      have HF : Aside (wr.ownsRow w.heap.size 25 3 u5 acc.length (acc.flatMap enT) ∧ acc.length < 4611686018427387904 ∧ (msort ltT acc).length = acc.length) := ⟨fl_T HO.out, hal, (msort_perm _ _).length_eq⟩
      clear hs hal
      go_wp2_with (first | (go_at_call 29; refine HSo.out.mono ?_; rintro e w1 ⟨rfl, ho1, hg1⟩; have HO1 : Aside _ := ho1; have HG1 : Aside _ := hg1; clear ho1 hg1) | (go_at_call 37; refine (compact_T w.heap.size u5 (msort ltT acc) _ ?ho ?hl).mono ?_; (case ho => exact HO1.out); (case hl => have := HF.out; omega); rintro e w2 ⟨v2, rfl, ho2, hv2, hg2⟩; have HO2 : Aside _ := ho2; have HG2 : Aside _ := hg2; clear ho2 hg2 hv2))
      go_ret
      have b1 := below_grown HB.out HG1.out HB.out.size HF.out.1
      exact ⟨_, rfl, by rw [← HACC.out]; exact R_T HO2.out, below_grown b1 HG2.out b1.size HO1.out⟩
end Go.Proofs.Ytgdmdhhihoifkaa.Pr

namespace Go.Proofs.Ytgdmdhhihoifkaa.Pr
open Go.Shelf Go.RowKit Go.Lib Go.Sort Go.Proofs.Ytgdmdhhihoifkaa
open Go.Proofs.YtgdmdhhihoifkaaW.PrintWords Go.Proofs.YtgdmdhhihoifkaaW.PrintLast Go.Proofs.YtgdmdhhihoifkaaW.PrintMore

attribute [local go_sem] Oper.semAt_some

/-- What has come when m are left: the last ones, the last one first, each with its place. -/
def came (l : List Ch) (m : Nat) : List (Nat × Ch) := ((List.range' m (l.length - m)).reverse).map (fun i => (i, l[i]!))
theorem came_len (l : List Ch) (m : Nat) : (came l m).length = l.length - m := by simp [came]
theorem came_all (l : List Ch) : came l l.length = [] := by simp [came]
theorem came_step (l : List Ch) (m : Nat) (h : m < l.length) : came l m = came l (m + 1) ++ [(m, l[m]!)] := by
  unfold came
  have e : l.length - m = (l.length - (m + 1)) + 1 := by omega
  rw [e, List.range'_succ, List.reverse_cons, List.map_append]
  rfl
theorem came_snd (l : List Ch) : (came l 0).map Prod.snd = l.reverse := by
  unfold came
  rw [List.map_map, Nat.sub_zero, ← List.range_eq_range', List.map_reverse]
  congr 1
  apply List.ext_getElem
  · simp
  · intro i h1 h2
    simp at h1
    simp [h1]

/-- What a round that goes on keeps: what lay below n₀, and the iterator's box. -/
def KpB (n₀ Bs : Nat) (A B : World) : Prop := Below n₀ A B ∧ B.heap[Bs]? = A.heap[Bs]?
theorem kpB_t {n₀ Bs : Nat} {A B C : World} (h : KpB n₀ Bs A B) (k : KpB n₀ Bs B C) : KpB n₀ Bs A C := ⟨h.1.trans k.1, k.2.trans h.2⟩
theorem kpB_b {n₀ Bs : Nat} {w : World} (hn : n₀ ≤ w.heap.size) (hb : Bs < w.heap.size) (W : World) (l : Nat) (o o' : Obj) (hl : w.heap.size ≤ l) (h : W.heap[l]? = some o) (h1 : o.isCells = false) (h2 : o.isWalk = false) : KpB n₀ Bs W (W.putObj l o') :=
  ⟨belowK_b hn W l o o' hl h h1 h2, World.putObj_heap_other (by omega)⟩

def encB (x : Nat × Ch) : Array Value := #[.int .i64 (x.1 : Int), .agg #[.int .i64 x.2.f0, .bool x.2.f1.f0, .string x.2.f1.f1.f0, .string x.2.f1.f1.f1, .string x.2.f1.f1.f2]]

set_option maxRecDepth 100000 in
set_option maxHeartbeats 2000000 in
theorem backward1_in (F : Fence) (n : Nat) (h48 : F.fn 48) (hro : F.round = none) (hn : 1 ≤ n) (lp Bs : Nat) (A : Option Addr) (cap : Nat) (l : List Ch) (hbig : l.length ≤ 1073741824) (w0 : World) (hC : Kd.C k29 w0 A l.length l) (J Jx : List (Nat × Ch) → World → Prop)
    (hY : ∀ pre x W, J pre W → pre.length < l.length → YieldAt F (n - 1) Try.prog lp (encB x) W fun e W' =>
      (e = .returned (.bool true) ∧ J (pre ++ [x]) W' ∧ KpB w0.heap.size Bs W W') ∨ (e = .returned (.bool false) ∧ Jx (pre ++ [x]) W'))
    (W : World) (hW : Below w0.heap.size w0 W) (hBs : Boxed W Bs 22 (.slice A l.length cap)) (h0 : J [] W) :
    CallsIn F n Try.prog 48 #[.func (.yield lp) #[] #[], .pointer (some ⟨Bs, 0, none⟩)] W fun e W' => (∃ v, e = .returned v) ∧
      ((∃ ys, ys = came l 0 ∧ J ys W') ∨ (∃ pre, True ∧ Jx pre W')) := by
  have HC : Aside (Kd.C k29 w0 A l.length l) := hC
  clear hC
  have hbc := hBs.cell
  refine callsIn_of_wp Try.func48 rfl h48 ?_ hro
  simp only [Try.ntmps48, List.size_toArray, List.length_cons, List.length_nil, Nat.reduceAdd, Nat.reduceSub, Array.replicate_succ, Array.replicate_zero, List.push_toArray, List.append_toArray, List.nil_append, List.cons_append]
  gi_wp2
  gi_loopw [3] (fun i wr => ∃ m : Nat, m ≤ l.length ∧ i = .int .i64 ((m : Int) - 1) ∧ J (came l m) wr ∧ Aside (Below w0.heap.size w0 wr) ∧ Boxed wr Bs 22 (.slice A l.length cap))
    (fun i _ => (intOf i + 1).toNat)
  case atStart => exact ⟨l.length, Nat.le_refl _, rfl, by rw [came_all]; exact h0, hW, hBs⟩
  case round =>
    obtain ⟨m, hm, rfl, hJs, hnx, hbx⟩ := hrel
    have hbc2 := hbx.cell
    by_cases hlt : 0 < m
    · obtain ⟨k, rfl⟩ : ∃ k, m = k + 1 := ⟨m - 1, by omega⟩
      have hk : k < l.length := by omega
      obtain ⟨ad, x, hA, hx, h0, h1, h2, h3, h4⟩ := el_Ch HC.out rfl k hk
      replace h0 := cell_below hnx.out h0
      replace h1 := cell_below hnx.out h1
      replace h2 := cell_below hnx.out h2
      replace h3 := cell_below hnx.out h3
      replace h4 := cell_below hnx.out h4
      obtain rfl : l[k]! = x := by simp [hx]
      subst hA
      obtain ⟨fn, tmps, assign, body, hy, hR⟩ := hY _ (k, l[k]!) wr hJs (by rw [came_len]; omega)
      dsimp only [encB] at hy hR
      have hkz : ((k + 1 : Nat) : Int) - 1 = (k : Int) := by omega
      rw [hkz]
      have hkz2 : (k : Int) < (l.length : Int) := by omega
      have hkz0 : (0 : Int) ≤ (k : Int) := by omega
      generalize hel : l[k]! = el at *
      gi_wp2
      refine hR.mono ?_
      rintro e W3 (⟨rfl, hJ3, hk3⟩ | ⟨rfl, hJx3⟩)
      · gi_wp2
        go_roundw
        case rel => exact ⟨k, by omega, rfl, by rw [came_step l k hk, hel]; exact hJ3, hnx.out.trans hk3.1, hk3.2.trans hbx⟩
        case measure => simp [intOf]
      · gi_wp2
        refine bodyPost_ret (results_none rfl _ _ _) rfl ?_
        exact ⟨⟨_, rfl⟩, .inr ⟨_, trivial, hJx3⟩⟩
    · obtain rfl : m = 0 := by omega
      gi_wp2
      go_end0
      exact ⟨⟨_, rfl⟩, .inl ⟨_, rfl, hJs⟩⟩

set_option maxHeartbeats 1000000 in
theorem backward_in (F : Fence) (n : Nat) (h38 : F.fn 38) (hro : F.round = none) (a : Option Addr) (len cap : Nat) (w : World) :
    CallsIn F n Try.prog 38 #[.slice a len cap] w fun e w' => e = .returned (.func (.func 48) #[] #[.pointer (some ⟨w.heap.size, 0, none⟩)]) ∧ w' = w.alloc (.cells #[.slice a len cap] 22) := by
  refine callsIn_of_wp Try.func38 rfl h38 ?_ hro
  simp only [Try.ntmps38, List.size_toArray, List.length_cons, List.length_nil, Nat.reduceAdd, Nat.reduceSub, Array.replicate_succ, Array.replicate_zero, List.push_toArray, List.append_toArray, List.nil_append, List.cons_append]
  gi_wp2
  go_ret
  exact ⟨rfl, rfl⟩

theorem backward_stops (F : Fence) (n : Nat) (h48 : F.fn 48) (hro : F.round = none) (hn : 1 ≤ n) (Bs : Nat) (A : Option Addr) (cap : Nat) (l : List Ch) (hbig : l.length ≤ 1073741824) (w0 w : World) (hC : Kd.C k29 w0 A l.length l) (hw : Below w0.heap.size w0 w) (hBs : Boxed w Bs 22 (.slice A l.length cap)) :
    SeqStopsK F n Try.prog 48 #[.pointer (some ⟨Bs, 0, none⟩)] encB (KpB w0.heap.size Bs) (fun ys => ys = came l 0) (fun _ => True) l.length w := fun lp J Jx W hW _ _ hY h0 =>
  backward1_in F n h48 hro hn lp Bs A cap l hbig w0 hC J Jx hY W (hw.trans (hW.mono hw.size)) ((hW.block Bs hBs.lt).trans hBs) h0

theorem enCh_one1 (x : Ch) : ∀ v ∈ enCh x, v.oneCell' = true := by intro v hv; simp [enCh, enMu, enT] at hv; rcases hv with rfl | rfl | rfl | rfl | rfl <;> rfl
/-- A block that is a struct's box, as the loop's law wants it. -/
theorem struct_own (Bx : Nat) (cs : Array Value) (t : TypeId) {β : Type} (D : Nat) : OwnFrom D (fun (_ : β) W => W.heap[Bx]? = some (.cells cs t (0, 0))) := fun _ X Y row hs hg hr => by
  refine (hg.block Bx (Array.getElem?_eq_some_iff.1 hs).1 (fun e => ?_)).trans hs
  obtain ⟨_, o, ho, hc⟩ := hr Bx e.symm
  rw [hs] at ho
  cases ho
  cases hc

set_option maxRecDepth 100000 in
set_option maxHeartbeats 4000000 in
theorem back_in (F : Fence) (n : Nat) (h19 : F.fn 19) (h38 : F.fn 38) (h48 : F.fn 48) (hro : F.round = none) (hn : 6 ≤ n) (A0 : Option Addr) (c0 : Nat) (l0 : List Ch) (ht : l0.length ≤ 1073741824) (w : World) (hr0 : Kd.C k29 w A0 l0.length l0) :
    CallsIn F n Try.prog 19 #[.slice A0 l0.length c0] w fun e w' => ∃ v0_ : Value, e = .returned (v0_) ∧ w'.ownsRow w.heap.size 29 5 v0_ (l0.reverse.map flipCh).length ((l0.reverse.map flipCh).flatMap enCh) ∧ Below w.heap.size w w' := by
  have h1 : 1 ≤ n := by omega
  have HR0 : Aside (Kd.C k29 w A0 l0.length l0) := hr0
  clear hr0
  obtain ⟨i0, hi, hz0, hz1, hz2⟩ := info_parts info29
  have HI0 : Hid (Try.prog.info? 29 = some i0 ∧ i0.zero = some (.agg #[.int .i64 0, .bool false, .string ⟨#[]⟩, .string ⟨#[]⟩, .string ⟨#[]⟩]) ∧ i0.size = 5 ∧ i0.bytes = 64) := ⟨hi, hz0, hz1, hz2⟩
  clear hi hz0 hz1 hz2
  refine callsIn_of_wp_marks Try.func19 rfl h19 ?_ hro
  simp only [Try.ntmps19, List.size_toArray, List.length_cons, List.length_nil, Nat.reduceAdd, Nat.reduceSub, Array.replicate_succ, Array.replicate_zero, List.push_toArray, List.append_toArray, List.nil_append, List.cons_append]
  gi_wp2_with (gi_at_call 38; refine (backward_in F (n - 1) h38 hro _ _ _ _).mono ?_; rintro e w' ⟨rfl, rfl⟩)
  have bO := (Boxed.new w 22 (.slice none 0 0)).alloc (.cells #[.slice A0 l0.length c0] 22)
  have bS := Boxed.new (w.alloc (.cells #[.slice none 0 0] 22)) 22 (.slice A0 l0.length c0)
  simp only [World.size_alloc] at bS
  have hB0 : Below w.heap.size w ((w.alloc (.cells #[.slice none 0 0] 22)).alloc (.cells #[.slice A0 l0.length c0] 22)) := ((Below.refl _ w).alloc (Nat.le_refl _) _).alloc (by simp) _
  have hsz : ((w.alloc (.cells #[.slice none 0 0] 22)).alloc (.cells #[.slice A0 l0.length c0] 22)).heap.size = w.heap.size + 2 := by simp
  obtain ⟨W0, hW0⟩ : ∃ W0, (w.alloc (.cells #[.slice none 0 0] 22)).alloc (.cells #[.slice A0 l0.length c0] 22) = W0 := ⟨_, rfl⟩
  rw [hW0] at bO bS hB0 hsz ⊢
  clear hW0
  refine wpIn_rangeFunc_ownH hro h1 (gf := 48) (lb := #[.pointer (some ⟨w.heap.size + 1, 0, none⟩)]) rfl h48 (enters_of Try.func48 (by kernel_rfl) rfl)
    (backward_stops F (n - 1) h48 hro (by omega) (w.heap.size + 1) A0 c0 l0 ht w W0 HR0.out hB0 bS) kpB_t (kpB_b (by omega) (by omega)) (Below.refl _ _) (fun _ => rfl)
    (fun pre W => ((∃ v, Boxed W w.heap.size 22 v ∧ W.ownsRow w.heap.size 29 5 v ((pre.map Prod.snd).map flipCh).length (((pre.map Prod.snd).map flipCh).flatMap enCh) ∧ True) ∧ Boxed W (w.heap.size + 1) 22 (.slice A0 l0.length c0)) ∧ Below w.heap.size w W)
    (fun _ _ _ => False)
    (OwnFrom.and (OwnFrom.and (Own.from (holdsRow_own w.heap.size w.heap.size 22 29 5 (fun pre : List (Nat × Ch) => ((pre.map Prod.snd).map flipCh).length) (fun pre => ((pre.map Prod.snd).map flipCh).flatMap enCh) (fun _ _ => True)) _) (Own.from (boxed_own _ _ _) _)) (ownFrom_below (Nat.le_refl _) (by omega)))
    (fun _ _ _ _ _ hs _ _ => hs)
    ⟨⟨⟨_, bO, World.ownsRow_nil _ _ _ _, trivial⟩, bS⟩, hB0⟩
    (fun x a' W => ∃ Bx v0, w.heap.size + 1 < Bx ∧ Boxed W w.heap.size 22 v0 ∧ some Bx ≠ v0.ownBlock ∧ W.heap[Bx]? = some (.cells #[.int .i64 x.2.f0, .bool x.2.f1.f0, .string x.2.f1.f1.f0, .string x.2.f1.f1.f1, .string x.2.f1.f1.f2] 29 (0, 0)) ∧ a' = { tmps := #[.slice A0 l0.length c0, undef, .slice none 0 0, .pointer (some ⟨w.heap.size, 0, none⟩), undef, .pointer (some ⟨Bx, 0, none⟩), .slice A0 l0.length c0, .func (.func 48) #[] #[.pointer (some ⟨w.heap.size + 1, 0, none⟩)], .int .i64 (x.1 : Int), .agg #[.int .i64 x.2.f0, .bool x.2.f1.f0, .string x.2.f1.f1.f0, .string x.2.f1.f1.f1, .string x.2.f1.f1.f2], undef, undef, undef, undef, undef, undef, undef, undef, undef, undef, undef], defers := [] })
    (fun x a' _ X Y row hs hg hr => by obtain ⟨Bx, v0, h1, h4, h5, h2, h3⟩ := hs; exact ⟨Bx, v0, h1, boxed_own w.heap.size 22 (fun _ : Unit => v0) () X Y row h4 hg (fun r e => (hr r e).2), h5, struct_own Bx _ _ (β := Unit) _ () X Y row h2 hg hr, h3⟩)
    ?assign ?body ?done ?stop
  case assign =>
    rintro l pre x W K ⟨⟨⟨v, hv, hrow, _⟩, hS⟩, hB1⟩ hK
    dsimp only [encB]
    have hlt2 := hS.lt
    gi_wp2
    refine hK _ _ ((KeepsOthers.alloc _ _).from _) ⟨(Below.refl _ W).alloc hB1.size _, Below.heap_alloc _ _ _ hS.lt⟩ ⟨⟨⟨v, hv.alloc _, hrow.alloc _, trivial⟩, hS.alloc _⟩, hB1.alloc hB1.size _⟩ ⟨W.heap.size, v, hlt2, hv.alloc _, ?_, blk_new W _, rfl⟩
    intro e
    have := (hrow.lt _ e.symm).2
    omega
  case body =>
    rintro l pre x a' W hl ⟨r, hr⟩ ⟨⟨⟨v, hv, hrow, _⟩, hS⟩, hB1⟩ ⟨Bx, v0, hBx, hv0, hne, bX, rfl⟩ hlt
    obtain rfl : v = v0 := by
      have := hv.cell.symm.trans hv0.cell
      injection this
    have cx0 : W.cell? ⟨Bx, 0, none⟩ = some (.int .i64 x.2.f0) := (blk_cell bX 0).trans rfl
    have cx1 : W.cell? ⟨Bx, 1, none⟩ = some (.bool x.2.f1.f0) := (blk_cell bX 1).trans rfl
    have fx1 := blk_frozen bX 1
    have bX1 : (W.setCell ⟨Bx, 1, none⟩ (.bool (!x.2.f1.f0))).heap[Bx]? = some (.cells #[.int .i64 x.2.f0, .bool (!x.2.f1.f0), .string x.2.f1.f1.f0, .string x.2.f1.f1.f1, .string x.2.f1.f1.f2] 29 (0, 0)) := blk_put bX 1 _ rfl
    have dx0 : (W.setCell ⟨Bx, 1, none⟩ (.bool (!x.2.f1.f0))).cell? ⟨Bx, 0, none⟩ = some (.int .i64 x.2.f0) := (blk_cell bX1 0).trans rfl
    have dx1 : (W.setCell ⟨Bx, 1, none⟩ (.bool (!x.2.f1.f0))).cell? ⟨Bx, 1, none⟩ = some (.bool (!x.2.f1.f0)) := (blk_cell bX1 1).trans rfl
    have dx2 : (W.setCell ⟨Bx, 1, none⟩ (.bool (!x.2.f1.f0))).cell? ⟨Bx, 2, none⟩ = some (.string x.2.f1.f1.f0) := (blk_cell bX1 2).trans rfl
    have dx3 : (W.setCell ⟨Bx, 1, none⟩ (.bool (!x.2.f1.f0))).cell? ⟨Bx, 3, none⟩ = some (.string x.2.f1.f1.f1) := (blk_cell bX1 3).trans rfl
    have dx4 : (W.setCell ⟨Bx, 1, none⟩ (.bool (!x.2.f1.f0))).cell? ⟨Bx, 4, none⟩ = some (.string x.2.f1.f1.f2) := (blk_cell bX1 4).trans rfl
    have hgX : W.grownBy (W.setCell ⟨Bx, 1, none⟩ (.bool (!x.2.f1.f0))) (some Bx) := ⟨rfl, rfl, rfl, (KeepsWalks.setCell W _ _).size, fun k _ hk => Below.heap_setCell _ _ _ k (fun e => hk (by rw [e]))⟩
    have hv1 : Boxed (W.setCell ⟨Bx, 1, none⟩ (.bool (!x.2.f1.f0))) w.heap.size 22 v := hv.kept hgX (by intro e; injection e with e; omega)
    have hS1 : Boxed (W.setCell ⟨Bx, 1, none⟩ (.bool (!x.2.f1.f0))) (w.heap.size + 1) 22 (.slice A0 l0.length c0) := hS.kept hgX (by intro e; injection e with e; omega)
    have hrow1 := hrow.kept hgX (by
      rcases hrow.2 with ⟨h, _⟩ | _
      · exact .inl (by rw [h]; rfl)
      · exact .inr (fun e => hne e.symm))
    have hB2 : Below w.heap.size w (W.setCell ⟨Bx, 1, none⟩ (.bool (!x.2.f1.f0))) := hB1.setCell (p := ⟨Bx, 1, none⟩) (by show w.heap.size ≤ Bx; omega) _
    have hlen : ((pre.map Prod.snd).map flipCh).length = pre.length := by simp
    have c1 := hv1.cell
    have HX : Aside (pre.length < l0.length ∧ l0.length ≤ 1073741824) := ⟨hlt, ht⟩
    obtain ⟨W1, hW1⟩ : ∃ W1, W1 = W.setCell ⟨Bx, 1, none⟩ (.bool (!x.2.f1.f0)) := ⟨_, rfl⟩
    gi_wp2_with (gi_at_builtin; refine wpListIn_append_own _ rfl _ _ 22 rfl w.heap.size 29 i0 (.agg #[.int .i64 0, .bool false, .string ⟨#[]⟩, .string ⟨#[]⟩, .string ⟨#[]⟩]) 5 64 Try.underlying22 HI0.out.1 HI0.out.2.1 HI0.out.2.2.1 HI0.out.2.2.2 rfl (by decide) _ _ _ rfl (hrow1.alloc _) ⟨(W.setCell ⟨Bx, 1, none⟩ (.bool (!x.2.f1.f0))).heap.size, 0, none⟩ 1 1 (enCh (flipCh x.2)) (by first | rfl | (go_simp; done) | (go_simp; rfl)) rfl (World.news_of_block (blk_new _ _)) (enCh_one1 _) (by have := HX.out; rw [hlen]; simp [maxLen]; omega) (by have := HX.out; rw [hlen]; omega) (by have := hB2.size; simp at *; omega) ?_; intro v' w1 hown' hgrow _; obtain ⟨g', cap', rfl⟩ := ownsRow_succ hown'; obtain ⟨hv2, hv3, hr2, hk2, hb2⟩ := hv1.appended (by decide) hrow1 hB2.size (Nat.le_refl _) hown' hgrow; have hc1 := hv2.cell; have hf1 := hv2.frozen)
    have hS3 := ((hS1.alloc _).kept hgrow (hS1.not_row (by decide) hrow1)).other (B' := w.heap.size) (by omega) (Value.slice (some ⟨g', 0, none⟩) (pre.length + 1) cap')
    simp only [List.length_map] at hv3 hr2 hk2 hb2
    refine ⟨((KeepsOthers.setCell _ _ _).trans hk2).from _, ⟨((Below.refl _ W).setCell (p := ⟨Bx, 1, none⟩) (by show w.heap.size ≤ Bx; omega) _).trans hb2, hS3.trans hS.symm⟩, ⟨⟨⟨_, hv3, ?_, trivial⟩, hS3⟩, hB2.trans hb2⟩⟩
    simpa [List.flatMap_append] using hr2
  case done =>
    rintro D ys W hD rfl ⟨⟨⟨v, hv, hrow, _⟩, hS⟩, hB⟩ hK
    have hc := hv.cell
    gi_wp2
    refine ⟨by simp, .inl ⟨_, _, rfl, run_takeDeferred hK, ?_⟩⟩
    rw [came_snd] at hrow
    exact ⟨_, results_tmp rfl _ _ _, v, rfl, ownsRow_putObj hrow _ hK rfl, hB.trans (belowK_b (w := w) (Nat.le_refl _) W D _ _ (by omega) hK rfl rfl)⟩
  case stop =>
    rintro D c pre W _ _ h _
    exact h.elim

theorem watch_Back.calls (A0 : Option Addr) (c0 : Nat) (l0 : List Ch) (r : List Ch) (w : World) (hr0 : Kd.C k29 w A0 l0.length l0) (hc0 : l0.length ≤ c0) (h : watch_Back.f l0 = some r) :
    Calls Try.prog 19 #[.slice A0 l0.length c0] w fun e w' => ∃ v0_ : Value, e = .returned (v0_) ∧ Kd.R k29 29 w' w.heap.size (fun _ => True) v0_ r ∧ Below w.heap.size w w' := by
  obtain ⟨ht, rfl⟩ : l0.length ≤ 1073741824 ∧ l0.reverse.map flipCh = r := by
    unfold watch_Back.f tiny at h
    split at h
    · rename_i h1
      exact ⟨of_decide_eq_true h1, Option.some.inj h⟩
    · cases h
  refine ((callsIn_wide (n := 6)).1 (back_in Fence.wide 6 trivial trivial trivial rfl (by omega) A0 c0 l0 ht w hr0)).mono ?_
  rintro e w' ⟨v, rfl, ho, hb⟩
  exact ⟨v, rfl, R_Ch ho, hb⟩
end Go.Proofs.Ytgdmdhhihoifkaa.Pr

namespace Go.Proofs.Ytgdmdhhihoifkaa.Pr
open Go.Shelf Go.RowKit Go.Lib Go.Sort Go.Proofs.Ytgdmdhhihoifkaa
open Go.Proofs.YtgdmdhhihoifkaaW.PrintWords Go.Proofs.YtgdmdhhihoifkaaW.PrintLast Go.Proofs.YtgdmdhhihoifkaaW.PrintMore

/-- The world between two calls of the closure: its three boxes, and what it has gathered. -/
def ChSt (B : Nat) (fr to_ : Int) (w0 : World) (acc : List Ch) (w : World) : Prop :=
  ∃ v, w.cell? ⟨B, 0, none⟩ = some (.int .i64 fr) ∧ w.cell? ⟨B + 1, 0, none⟩ = some (.int .i64 to_) ∧ w.cell? ⟨B + 2, 0, none⟩ = some v ∧ w.frozen? ⟨B + 2, 0, none⟩ = false ∧ Kd.R k29 29 w B (fun k => B + 3 ≤ k) v acc ∧ Below B w0 w ∧ B + 3 ≤ w.heap.size

theorem app_Ch_ok {ops : Array Oper} {rest : List Oper} {o : Oper} {a : Act} {Q : Exit → Act → World → Prop} {w0 W : World} (base : Nat) (hgd : o.guard = none) (s x : Operand) (ho : o.op = .call { callee := .builtin .append, args := #[s, x], argTypes := #[22, 22] })
    (v : Value) (xs : List Ch) (p : Ch) (ok : Nat → Prop) (hok : ∀ k, W.heap.size ≤ k → ok k) (hs : a.eval s = v) (hx : a.eval x = .slice (some ⟨W.heap.size, 0, none⟩) 1 1) (HO : Kd.R k29 29 W base ok v xs) (HB : Below base w0 W) (hbase : base ≤ W.heap.size) (hl : xs.length < 4294967296)
    (h : ∀ v1 w1, Kd.R k29 29 w1 base ok v1 (xs ++ [p]) → Below base w0 w1 → W.grownBy w1 v.ownBlock → (v1.ownBlock = v.ownBlock ∨ ∃ b, v1.ownBlock = some b ∧ W.heap.size ≤ b) → wpList Try.prog ops Q rest (a.put o.dst v1) w1) :
    wpList Try.prog ops Q (o :: rest) a (W.alloc (.cells #[.int .i64 p.f0, .bool p.f1.f0, .string p.f1.f1.f0, .string p.f1.f1.f1, .string p.f1.f1.f2] 29)) :=
  Kd.R_append k29 (w0 := w0) base hgd s x 22 29 _ _ ho Try.underlying22 info29 rfl (by decide) (by omega) v xs p [.int .i64 p.f0, .bool p.f1.f0, .string p.f1.f1.f0, .string p.f1.f1.f1, .string p.f1.f1.f2] ok (fun _ => False) hs hx (k29_mkM _ _ _ p) (fun _ hk => hk.elim) hok HO HB hbase (by omega) h

set_option maxHeartbeats 4000000 in
set_option maxRecDepth 100000 in
theorem add_walk (B : Nat) (fr to_ rev : Int) (del : Bool) (t : T) (acc : List Ch) (w0 w : World) (S : ChSt B fr to_ w0 acc w) (hl : acc.length < 4294967296) :
    Calls Try.prog 26 #[.int .i64 rev, .bool del, .agg #[.string t.f0, .string t.f1, .string t.f2], .pointer (some ⟨B, 0, none⟩), .pointer (some ⟨B + 1, 0, none⟩), .pointer (some ⟨B + 2, 0, none⟩)] w fun e w' => e = .returned (.tuple #[]) ∧ ChSt B fr to_ w0 (acc ++ chIf fr to_ rev del t) w' ∧ ∀ g cells, B + 3 ≤ g → w.heap[g]? = some (.cells cells 51 (0, 0)) → w'.heap[g]? = some (.cells cells 51 (0, 0)) := by
  obtain ⟨v, h4, h5, h7, f7, hO, hB, hsz⟩ := S
  obtain ⟨t0, t1, t2⟩ := t
  have HR : Hid (chIf fr to_ rev del ⟨t0, t1, t2⟩ = if fr < rev ∧ rev ≤ to_ then [⟨rev, ⟨del, ⟨t0, t1, t2⟩⟩⟩] else []) := rfl
  generalize chIf fr to_ rev del ⟨t0, t1, t2⟩ = rr at HR ⊢
  have HO : Aside (Kd.R k29 29 w B (fun k => B + 3 ≤ k) v acc) := hO
  have HB : Aside (Below B w0 w ∧ B + 3 ≤ w.heap.size ∧ acc.length < 4294967296) := ⟨hB, hsz, hl⟩
  have b0 : B < w.heap.size := by omega
  have b1 : B + 1 < w.heap.size := by omega
  have b2 : B + 2 < w.heap.size := by omega
  clear hO hB hsz hl
  dsimp only
  by_cases c1 : fr < rev
  · have d1 : decide (fr < rev) = true := decide_eq_true c1
    by_cases c2 : rev ≤ to_
    · have d2 : decide (rev ≤ to_) = true := decide_eq_true c2
      obtain rfl : rr = [⟨rev, ⟨del, ⟨t0, t1, t2⟩⟩⟩] := by rw [HR.out, if_pos ⟨c1, c2⟩]
      go_enter Try.func26, Try.ntmps26
      have hne : some (B + 2) ≠ v.ownBlock := fun e => by have := HO.out.1 _ e.symm; omega
      have hne0 : some B ≠ v.ownBlock := fun e => by have := HO.out.1 _ e.symm; omega
      have hne1 : some (B + 1) ≠ v.ownBlock := fun e => by have := HO.out.1 _ e.symm; omega
      have HN : Aside (some (B + 2) ≠ v.ownBlock ∧ some B ≠ v.ownBlock ∧ some (B + 1) ≠ v.ownBlock) := ⟨hne, hne0, hne1⟩
      have H45 : Aside (w.cell? ⟨B, 0, none⟩ = some (.int .i64 fr) ∧ w.cell? ⟨B + 1, 0, none⟩ = some (.int .i64 to_) ∧ w.cell? ⟨B + 2, 0, none⟩ = some v ∧ w.frozen? ⟨B + 2, 0, none⟩ = false) := ⟨h4, h5, h7, f7⟩
      clear hne hne0 hne1
      go_wp2_with (at_builtin; refine app_Ch_ok (w0 := w0) B rfl (.tmp 17) (.tmp 23) rfl v acc ⟨rev, ⟨del, ⟨t0, t1, t2⟩⟩⟩ (fun k => B + 3 ≤ k) ?aF rfl (by first | (go_simp; done) | (go_simp; rfl)) ?aO ?aB ?aS HB.out.2.2 ?_; (case aF => intro k hk; have := HB.out.2.1; simp at hk; omega); (case aO => exact Kd.R_alloc HO.out _); (case aB => exact HB.out.1.alloc (by have := HB.out.2.1; omega) _); (case aS => have := HB.out.2.1; simp; omega); intro v1 w1 ho hb hg1 hat; obtain ⟨g', cap', rfl⟩ := Go.Joins.ownsRow_form (fl_Ch ho) (by simp); have e7 : w1.cell? ⟨B + 2, 0, none⟩ = some v := (hg1.cell_far _ (by have := HB.out.2.1; simp; omega) HN.out.1).trans ((Lib.cell?_alloc_some _ H45.out.2.2.1)); have f7' : w1.frozen? ⟨B + 2, 0, none⟩ = false := (hg1.frozen_far _ (by have := HB.out.2.1; simp; omega) HN.out.1).trans ((World.frozen?_of_block (Below.heap_alloc _ _ _ (by have := HB.out.2.1; simp; omega))).trans H45.out.2.2.2); have e4 : Aside (w1.cell? ⟨B, 0, none⟩ = some (.int .i64 fr) ∧ w1.cell? ⟨B + 1, 0, none⟩ = some (.int .i64 to_)) := ⟨(hg1.cell_far _ (by have := HB.out.2.1; simp; omega) HN.out.2.1).trans (Lib.cell?_alloc_some _ H45.out.1), (hg1.cell_far _ (by have := HB.out.2.1; simp; omega) HN.out.2.2).trans (Lib.cell?_alloc_some _ H45.out.2.1)⟩; have HO1 : Aside _ := ho; have HB1 : Aside _ := hb; have HG1 : Aside _ := hg1; clear ho hb hg1 hat)
      go_end0
      refine ⟨rfl, ⟨_, ?_, ?_, World.cell?_setCell_same' _ _ _ (by rw [e7]; rfl), by rw [World.frozen?_setCell]; exact f7', by have q := Kd.R_far (p := ⟨B + 2, 0, none⟩) HO1.out (fun k hk => by show k ≠ B + 2; omega) (.slice (some ⟨g', 0, none⟩) (acc.length + 1) cap'); rw [List.length_append] at q; exact q, HB1.out.setCell (by show B ≤ B + 2; omega) _, ?_⟩, ?_⟩
      · rw [World.cell?_setCell_far _ _ _ _ (by simp)]; exact e4.out.1
      · rw [World.cell?_setCell_far _ _ _ _ (by simp)]; exact e4.out.2
      · have := HG1.out.size; have := HB.out.2.1; simp at *; omega
      · intro g cells hg hc
        have hlt : g < w.heap.size := (Array.getElem?_eq_some_iff.1 hc).1
        rw [Below.heap_setCell _ _ _ _ (by show g ≠ B + 2; omega), HG1.out.block g (by simp; omega) (Kd.R_ne HO.out hc (by decide)), Below.heap_alloc _ _ _ hlt]
        exact hc
    · have d2 : decide (rev ≤ to_) = false := decide_eq_false c2
      obtain rfl : rr = [] := by rw [HR.out, if_neg (fun h => c2 h.2)]
      have S0 : Aside (ChSt B fr to_ w0 acc (w.alloc (Obj.cells #[.string t0, .string t1, .string t2] 25))) := ⟨v, Lib.cell?_alloc_some _ h4, Lib.cell?_alloc_some _ h5, Lib.cell?_alloc_some _ h7, (World.frozen?_of_block (Below.heap_alloc _ _ _ (by show B + 2 < _; omega))).trans f7, Kd.R_alloc HO.out _, HB.out.1.alloc (by omega) _, by have := HB.out.2.1; simp; omega⟩
      go_enter Try.func26, Try.ntmps26
      go_wp2
      go_end0
      exact ⟨rfl, S0.out, fun g cells _ hc => (Below.heap_alloc _ _ _ (Array.getElem?_eq_some_iff.1 hc).1).trans hc⟩
  · have d1 : decide (fr < rev) = false := decide_eq_false c1
    obtain rfl : rr = [] := by rw [HR.out, if_neg (fun h => c1 h.1)]
    have S0 : Aside (ChSt B fr to_ w0 acc (w.alloc (Obj.cells #[.string t0, .string t1, .string t2] 25))) := ⟨v, Lib.cell?_alloc_some _ h4, Lib.cell?_alloc_some _ h5, Lib.cell?_alloc_some _ h7, (World.frozen?_of_block (Below.heap_alloc _ _ _ (by show B + 2 < _; omega))).trans f7, Kd.R_alloc HO.out _, HB.out.1.alloc (by omega) _, by have := HB.out.2.1; simp; omega⟩
    go_enter Try.func26, Try.ntmps26
    go_wp2
    go_end0
    exact ⟨rfl, S0.out, fun g cells _ hc => (Below.heap_alloc _ _ _ (Array.getElem?_eq_some_iff.1 hc).1).trans hc⟩

theorem ChSt.alloc {B : Nat} {fr to_ : Int} {w0 w : World} {acc : List Ch} (S : ChSt B fr to_ w0 acc w) (o : Obj) : ChSt B fr to_ w0 acc (w.alloc o) := by
  obtain ⟨v, h4, h5, h7, f7, hO, hB, hsz⟩ := S
  exact ⟨v, Lib.cell?_alloc_some _ h4, Lib.cell?_alloc_some _ h5, Lib.cell?_alloc_some _ h7, (World.frozen?_of_block (Below.heap_alloc _ _ _ (by show B + 2 < _; omega))).trans f7, Kd.R_alloc hO _, hB.alloc (by omega) _, by simp; omega⟩
theorem chOf_len (fr to_ : Int) (r : Ro) : (chOf fr to_ r).length ≤ 2 := by
  unfold chOf chIf
  split
  · simp
  · split <;> split <;> simp <;> split <;> simp
theorem flat_len (fr to_ : Int) : ∀ l : List Ro, (l.flatMap (chOf fr to_)).length ≤ 2 * l.length
  | [] => by simp
  | r :: l => by
    rw [List.flatMap_cons, List.length_append, List.length_cons]
    have := chOf_len fr to_ r
    have := flat_len fr to_ l
    omega

set_option maxHeartbeats 4000000 in
set_option maxRecDepth 100000 in
theorem watch_Changes.calls (A0 : Option Addr) (c0 : Nat) (l0 : List Ro) (a1 : Int) (a2 : Int) (r : List Ch) (w : World) (hr0 : Kd.C k51 w A0 l0.length l0) (hc0 : l0.length ≤ c0) (h : watch_Changes.f l0 a1 a2 = some r) :
    Calls Try.prog 8 #[.slice A0 l0.length c0, .int .i64 a1, .int .i64 a2] w fun e w' => ∃ v0_ : Value, e = .returned (v0_) ∧ Kd.R k29 29 w' w.heap.size (fun _ => True) v0_ r ∧ Below w.heap.size w w' := by
  obtain ⟨ht, rfl⟩ : l0.length ≤ 1073741824 ∧ msort ltCh (l0.flatMap (chOf a1 a2)) = r := by
    unfold watch_Changes.f tiny at h
    split at h
    · rename_i h1
      exact ⟨of_decide_eq_true h1, Option.some.inj h⟩
    · cases h
  have HR0 : Aside (Kd.C k51 w A0 l0.length l0) := hr0
  clear hr0 hc0 h
  go_enter Try.func8, Try.ntmps8
  go_wp2
  obtain ⟨B, hB⟩ : ∃ B, B = w.heap.size := ⟨_, rfl⟩
  have S0 : Aside (ChSt B a1 a2 w [] (((w.alloc (Obj.cells #[.int .i64 a1] 2)).alloc (Obj.cells #[.int .i64 a2] 2)).alloc (Obj.cells #[.slice none 0 0] 22))) := by
    subst hB
    show ChSt _ _ _ _ _ _
    unfold ChSt
    refine ⟨.slice none 0 0, ?_, ?_, ?_, ?_, Kd.R_nil _ _ _ _ _, (((Below.refl _ w).alloc (Nat.le_refl _) _).alloc (by simp) _).alloc (by simp; omega) _, by simp⟩
    · rw [World.cell?_alloc_past _ _ _ (by simp; omega), World.cell?_alloc_past _ _ _ (by simp), World.cell?_alloc_at _ _ _ _ rfl]; rfl
    · rw [World.cell?_alloc_past _ _ _ (by simp), World.cell?_alloc_at _ _ _ _ (by simp)]; rfl
    · rw [World.cell?_alloc_at _ _ _ _ (by simp)]; rfl
    · have h := blk_frozen (blk_new ((w.alloc (Obj.cells #[.int .i64 a1] 2)).alloc (Obj.cells #[.int .i64 a2] 2)) (Obj.cells #[.slice none 0 0] 22)) 0
      simpa using h
  rw [← hB]
  have HBe : Hid (B = w.heap.size) := hB
  clear hB
  go_loopg [14] l0.length (fun gk s14 wr => ∃ (i : Nat) (acc : List Ch), s14 = .int .i64 i ∧ i ≤ l0.length ∧ l0.length - i ≤ gk ∧ Hid (acc = (l0.take i).flatMap (chOf a1 a2)) ∧ Aside (ChSt B a1 a2 w acc wr))
  case atStart => exact ⟨0, [], rfl, Nat.zero_le _, Nat.le_refl _, rfl, S0⟩
  case round =>
    clear S0
    obtain ⟨i, acc, rfl, hi, hg, HA, S1⟩ := hrel
    by_cases hlt : i < l0.length
    · have hltz : (i : Int) < (l0.length : Int) := by omega
      obtain ⟨ad, x, hA, hx, h0, h1, h2, h3, h4⟩ := el_Ro HR0.out rfl i hlt
      have HBl : Below B w wr := by obtain ⟨v, _, _, _, _, _, hB, _⟩ := S1.out; exact hB
      rw [HBe.out] at HBl
      replace h0 := cell_below HBl h0
      replace h1 := cell_below HBl h1
      replace h2 := cell_below HBl h2
      replace h3 := cell_below HBl h3
      replace h4 := cell_below HBl h4
      clear HBl
      have hal : acc.length + 4 < 4294967296 := by
        rw [HA.out]
        have q1 := flat_len a1 a2 (l0.take i)
        have q2 := List.length_take_le i l0
        omega
      have HS : Hid ((l0.take (i + 1)).flatMap (chOf a1 a2) = acc ++ chOf a1 a2 x) := by
        show _ = _
        rw [HA.out, take_step l0 i x hx, List.flatMap_append]
        simp
      have HL : Aside (acc.length + 4 < 4294967296) := hal
      have HT2 : Hid (chOf a1 a2 x = if x.f2 ≠ 0 ∧ x.f2 ≤ x.f1 then [] else chIf a1 a2 x.f1 false x.f0 ++ (if x.f2 ≠ 0 then chIf a1 a2 x.f2 true x.f0 else [])) := rfl
      clear HA hal hx
      subst hA
      obtain ⟨⟨t0, t1, t2⟩, x1, x2⟩ := x
      dsimp only at h0 h1 h2 h3 h4
      have S2 : Aside (ChSt B a1 a2 w acc (wr.alloc (Obj.cells #[.string t0, .string t1, .string t2, .int .i64 x1, .int .i64 x2] 51)) ∧ B + 3 ≤ wr.heap.size) := ⟨S1.out.alloc _, by obtain ⟨v, _, _, _, _, _, _, h⟩ := S1.out; exact h⟩
      by_cases c1 : x2 = 0
      · have d1 : (x2 != 0) = false := by simp [c1]
        have hq : Hid ((l0.take (i + 1)).flatMap (chOf a1 a2) = acc ++ chIf a1 a2 x1 false ⟨t0, t1, t2⟩) := by
          show _ = _
          rw [HS.out, HT2.out, if_neg (by simp [c1]), if_neg (by simp [c1]), List.append_nil]
        clear HS HT2
        subst c1
        go_wp2_with (go_at_call 26; refine (add_walk B a1 a2 x1 false ⟨t0, t1, t2⟩ acc w _ S2.out.1 (by have := HL.out; omega)).mono ?_; rintro e w1 ⟨rfl, S3, hfr⟩; have S4 : Aside _ := S3; have hbk := hfr wr.heap.size _ S2.out.2 (blk_new wr _); have e4 : w1.cell? ⟨wr.heap.size, 4, none⟩ = some (.int .i64 0) := (blk_cell hbk 4).trans rfl; clear S3 hfr hbk)
        go_roundg (l0.length - (i + 1))
        case measure => omega
        case rel => exact ⟨i + 1, _, by first | rfl | go_num, by omega, Nat.le_refl _, hq.out.symm, S4.out⟩
      · have d1 : (x2 != 0) = true := by simp [c1]
        by_cases c2 : x2 ≤ x1
        · have d2 : decide (x2 ≤ x1) = true := decide_eq_true c2
          have hq : Hid ((l0.take (i + 1)).flatMap (chOf a1 a2) = acc) := by
            show _ = _
            rw [HS.out, HT2.out, if_pos ⟨c1, c2⟩, List.append_nil]
          clear HS HT2
          go_wp2
          go_roundg (l0.length - (i + 1))
          case measure => omega
          case rel => exact ⟨i + 1, acc, by first | rfl | go_num, by omega, Nat.le_refl _, hq.out.symm, S2.out.1⟩
        · have d2 : decide (x2 ≤ x1) = false := decide_eq_false c2
          have hq : Hid ((l0.take (i + 1)).flatMap (chOf a1 a2) = (acc ++ chIf a1 a2 x1 false ⟨t0, t1, t2⟩) ++ chIf a1 a2 x2 true ⟨t0, t1, t2⟩) := by
            show _ = _
            rw [HS.out, HT2.out, if_neg (fun h => c2 h.2), if_pos c1, List.append_assoc]
          clear HS HT2
          have HC1 : Hid ((acc ++ chIf a1 a2 x1 false ⟨t0, t1, t2⟩).length < 4294967296) := by
            have := HL.out
            have h9 : (chIf a1 a2 x1 false ⟨t0, t1, t2⟩).length ≤ 1 := by unfold chIf; split <;> simp
            show _ < _
            rw [List.length_append]; omega
          go_wp2_with (go_at_call 26; first | (refine (add_walk B a1 a2 x1 false ⟨t0, t1, t2⟩ acc w _ S2.out.1 (by have := HL.out; omega)).mono ?_; clear S2; rintro e w1 ⟨rfl, S3, hfr⟩; have S4 : Aside _ := S3; have hbk := hfr wr.heap.size _ (by obtain ⟨v, _, _, _, _, _, _, h⟩ := S1.out; exact h) (blk_new wr _); have e0 : w1.cell? ⟨wr.heap.size, 0, none⟩ = some (.string t0) := (blk_cell hbk 0).trans rfl; have e1 : w1.cell? ⟨wr.heap.size, 1, none⟩ = some (.string t1) := (blk_cell hbk 1).trans rfl; have e2 : w1.cell? ⟨wr.heap.size, 2, none⟩ = some (.string t2) := (blk_cell hbk 2).trans rfl; have e4 : w1.cell? ⟨wr.heap.size, 4, none⟩ = some (.int .i64 x2) := (blk_cell hbk 4).trans rfl; clear S3 hfr hbk) | (refine (add_walk B a1 a2 x2 true ⟨t0, t1, t2⟩ (acc ++ chIf a1 a2 x1 false ⟨t0, t1, t2⟩) w _ S4.out HC1.out).mono ?_; rintro e w2 ⟨rfl, S5, hfr⟩; have S6 : Aside _ := S5; clear S5 hfr))
          go_roundg (l0.length - (i + 1))
          case measure => omega
          case rel => exact ⟨i + 1, _, by first | rfl | go_num, by omega, Nat.le_refl _, hq.out.symm, S6.out⟩
    · have hltz : ¬ (i : Int) < (l0.length : Int) := by omega
      have HACC : Hid (acc = l0.flatMap (chOf a1 a2)) := by show _ = _; rw [HA.out, List.take_of_length_le (by omega)]
      have hal : acc.length < 4611686018427387904 := by
        rw [HACC.out]
        have q1 := flat_len a1 a2 l0
        omega
      clear HA
      obtain ⟨v, h4, h5, h7, f7, hO, hB, hsz⟩ := S1.out
      have hown := fl_Ch hO
      have hs := sort_Ch B v acc wr hown hal
      have hne : some (B + 2) ≠ v.ownBlock := fun e => by have := hO.1 _ e.symm; omega
      have HSo : Hid (type_of% hs) := hs
      have HF : Aside (wr.ownsRow B 29 5 v acc.length (acc.flatMap enCh) ∧ Below B w wr ∧ B + 3 ≤ wr.heap.size ∧ some (B + 2) ≠ v.ownBlock ∧ wr.cell? ⟨B + 2, 0, none⟩ = some v) := ⟨hown, hB, hsz, hne, h7⟩
      have hsz2 : B + 2 < wr.heap.size := by omega
      have h7' : wr.cell? ⟨B + 1 + 1, 0, none⟩ = some v := h7
      clear hs hal h4 h5 h7 f7 hO hB hsz hown hne S1
      go_wp2_with (go_at_call 27; refine HSo.out.mono ?_; rintro e w1 ⟨rfl, ho1, hg1⟩; have e7 : w1.cell? ⟨B + 1 + 1, 0, none⟩ = some v := (hg1.cell_far _ hsz2 HF.out.2.2.2.1).trans HF.out.2.2.2.2; have HO1 : Aside _ := ho1; have HG1 : Aside _ := hg1; clear ho1 hg1)
      go_ret
      refine ⟨_, rfl, ?_, ?_⟩
      · rw [← HACC.out, ← HBe.out]; exact R_Ch HO1.out
      · rw [← HBe.out]; exact below_grown HF.out.2.1 HG1.out (by have := HF.out.2.2.1; omega) HF.out.1
end Go.Proofs.Ytgdmdhhihoifkaa.Pr

namespace Go.Proofs.Ytgdmdhhihoifkaa.Pr
open Go.Shelf Go.RowKit Go.Lib Go.Sort Go.Proofs.Ytgdmdhhihoifkaa
open Go.Proofs.YtgdmdhhihoifkaaW.PrintWords Go.Proofs.YtgdmdhhihoifkaaW.PrintLast Go.Proofs.YtgdmdhhihoifkaaW.PrintMore

set_option maxHeartbeats 1000000 in
set_option maxRecDepth 100000 in
theorem index_none (A : Option Addr) (c : Nat) (t0 t1 t2 : ByteArray) (w : World) : Calls Try.prog 46 #[.slice A 0 c, .agg #[.string t0, .string t1, .string t2]] w fun e w' => e = .returned (.int .i64 (-1)) ∧ Below w.heap.size w w' := by
  go_enter Try.func46, Try.ntmps46
  go_wp2
  go_loopg [8] 0 (fun _ s8 wr => s8 = .int .i64 0 ∧ wr = w.alloc (Obj.cells #[.string t0, .string t1, .string t2] 25))
  case atStart => exact ⟨rfl, rfl⟩
  case round =>
    obtain ⟨rfl, rfl⟩ := hrel
    go_wp2
    go_ret
    exact ⟨rfl, (Below.refl _ _).alloc (Nat.le_refl _) _⟩
set_option maxHeartbeats 1000000 in
set_option maxRecDepth 100000 in
theorem contains_none (A : Option Addr) (c : Nat) (t0 t1 t2 : ByteArray) (w : World) : Calls Try.prog 32 #[.slice A 0 c, .agg #[.string t0, .string t1, .string t2]] w fun e w' => e = .returned (.bool false) ∧ Below w.heap.size w w' := by
  go_enter Try.func32, Try.ntmps32
  go_wp2_with (go_at_call 46; refine (index_none _ _ _ _ _ _).mono ?_; rintro e w' ⟨rfl, hb⟩)
  go_ret
  exact ⟨rfl, ((Below.refl _ w).alloc (Nat.le_refl _) _).trans (hb.mono (by simp))⟩

/-- slices.Contains at tuples. -/
theorem contains_T (A1 : Option Addr) (c1 : Nat) (l1 : List T) (w : World) (hr : Kd.C k25 w A1 l1.length l1) (t : T) :
    Calls Try.prog 32 #[.slice A1 l1.length c1, .agg #[.string t.f0, .string t.f1, .string t.f2]] w fun e w' => e = .returned (.bool (decide (t ∈ l1))) ∧ Below w.heap.size w w' := by
  rcases Nat.eq_zero_or_pos l1.length with h0 | h0
  · obtain rfl : l1 = [] := List.eq_nil_of_length_eq_zero h0
    refine (contains_none A1 c1 t.f0 t.f1 t.f2 w).mono ?_
    rintro e w' ⟨rfl, hb⟩
    exact ⟨by simp, hb⟩
  · obtain ⟨hn, hbig, hc0⟩ := hr
    obtain ⟨ad, rfl, hc⟩ := hc0 h0
    clear hc0
    have hspot : ad.spot = none := by
      obtain ⟨c, hl, hK, hcell⟩ := hc 0 l1[0] (by simp [h0])
      have h1 := k25_open hK
      have h2 := hcell 0 _ (by rw [h1]; rfl)
      cases hs : ad.spot with
      | none => rfl
      | some s =>
        exfalso
        have : (ad.add (0 * k25.sz + 0)).spot = some s := by simp [Addr.add, hs]
        unfold World.cell? at h2
        rw [this] at h2
        split at h2 <;> simp at h2
    obtain ⟨b, off, sp⟩ := ad
    obtain rfl : sp = none := hspot
    have h := AnyQ.slices_Contains Try.hasTuple 3 Try.isAgg25 Try.sizeOf25 enT enT_len (fun x y => decide (x = y)) eql_T b off l1.length c1 l1 t w (Nat.le_refl _) hbig (by
      intro j hj i v hv
      obtain ⟨c, hl, hK, hcell⟩ := hc j l1[j] (by simp [hj])
      have h1 := k25_open hK
      have h2 := hcell i v (by
        rw [h1]
        have e : l1[j]! = l1[j] := by simp [hj]
        rw [e] at hv
        exact hv)
      rw [Addr.add_lit] at h2
      rw [Nat.add_assoc]
      exact h2)
    refine h.mono ?_
    rintro e w' ⟨rfl, hb⟩
    refine ⟨?_, hb⟩
    rw [List.take_length]
    congr 2
    rw [Bool.eq_iff_iff]
    simp
def netA (l0 l1 : List T) : List Mu := (l0.filter (fun t => decide (t ∉ l1))).map (fun t => (⟨true, t⟩ : Mu))
theorem netA_len (l0 l1 : List T) : (netA l0 l1).length ≤ l0.length := by unfold netA; rw [List.length_map]; exact List.length_filter_le _ _
theorem net_eq (a b : List T) : netL a b = netA a b ++ (b.filter (fun t => decide (t ∉ a))).map (fun t => (⟨false, t⟩ : Mu)) := rfl
theorem net_same (a b : List T) : ∀ x ∈ netL a b, ∀ y ∈ netL a b, x.f1 = y.f1 → x = y := by
  intro x hx y hy h
  unfold netL at hx hy
  rw [List.mem_append, List.mem_map, List.mem_map] at hx hy
  rcases hx with ⟨t, ht, rfl⟩ | ⟨t, ht, rfl⟩ <;> rcases hy with ⟨u, hu, rfl⟩ | ⟨u, hu, rfl⟩ <;> dsimp only at h <;> subst h
  · rfl
  · simp at ht hu; exact absurd hu.1 ht.2
  · simp at ht hu; exact absurd ht.1 hu.2
  · rfl

set_option maxHeartbeats 4000000 in
set_option maxRecDepth 100000 in
theorem watch_Net.calls (A0 : Option Addr) (c0 : Nat) (l0 : List T) (A1 : Option Addr) (c1 : Nat) (l1 : List T) (r : List Mu) (w : World) (hr0 : Kd.C k25 w A0 l0.length l0) (hc0 : l0.length ≤ c0) (hr1 : Kd.C k25 w A1 l1.length l1) (hc1 : l1.length ≤ c1) (h : watch_Net.f l0 l1 = some r) :
    Calls Try.prog 16 #[.slice A0 l0.length c0, .slice A1 l1.length c1] w fun e w' => ∃ v0_ : Value, e = .returned (v0_) ∧ Kd.R k27 27 w' w.heap.size (fun _ => True) v0_ r ∧ Below w.heap.size w w' := by
  obtain ⟨ht0, ht1, rfl⟩ : l0.length ≤ 1073741824 ∧ l1.length ≤ 1073741824 ∧ compactL (msort ltMu (netL l0 l1)) = r := by
    unfold watch_Net.f tiny at h
    split at h
    · split at h
      · rename_i h1 h2
        exact ⟨of_decide_eq_true h1, of_decide_eq_true h2, Option.some.inj h⟩
      · cases h
    · cases h
  have HR0 : Aside (Kd.C k25 w A0 l0.length l0) := hr0
  have HR1 : Aside (Kd.C k25 w A1 l1.length l1) := hr1
  have HT : Aside (l0.length ≤ 1073741824 ∧ l1.length ≤ 1073741824) := ⟨ht0, ht1⟩
  clear hr0 hc0 hr1 hc1 h
  go_enter Try.func16, Try.ntmps16
  go_wp2
  go_loopg [5, 12] l0.length (fun gk s5 sx wr => ∃ (i : Nat) (acc : List Mu), sx = .int .i64 i ∧ i ≤ l0.length ∧ l0.length - i ≤ gk ∧ Hid (acc = (((l0.take i).filter (fun t => decide (t ∉ l1))).map (fun t => (⟨true, t⟩ : Mu)))) ∧ Aside (Kd.R k27 27 wr w.heap.size (fun _ => True) s5 acc) ∧ Aside (Below w.heap.size w wr))
  case atStart => exact ⟨0, [], rfl, Nat.zero_le _, Nat.le_refl _, rfl, Kd.R_nil _ _ _ _ _, Below.refl _ _⟩
  case round =>

    obtain ⟨i, acc, rfl, hi, hg, HA, HO, HB⟩ := hrel
    by_cases hlt : i < l0.length
    · have hltz : (i : Int) < (l0.length : Int) := by omega
      obtain ⟨ad, x, hA, hx, h0, h1, h2⟩ := el_T HR0.out rfl i hlt
      replace h0 := cell_below HB.out h0
      replace h1 := cell_below HB.out h1
      replace h2 := cell_below HB.out h2
      have hal : acc.length < 4294967296 := by
        rw [HA.out]
        have q1 := List.length_filter_le (fun t => decide (t ∉ l1)) (l0.take i)
        have q2 := List.length_take_le i l0
        have q3 := HT.out

        simp only [List.length_map, List.length_append]
        omega
      have HL : Aside (acc.length < 4294967296 ∧ w.heap.size ≤ wr.heap.size) := ⟨hal, HB.out.size⟩
      have HS : Hid ((((l0.take (i + 1)).filter (fun t => decide (t ∉ l1))).map (fun t => (⟨true, t⟩ : Mu))) = acc ++ (if x ∈ l1 then [] else [⟨true, x⟩])) := by
        show _ = _
        rw [HA.out, take_step l0 i x hx, List.filter_append, List.map_append]
        congr 1
        by_cases hq : x ∈ l1 <;> simp [hq]
      have hcon := fun W hb => contains_T A1 c1 l1 W (Kd.C_below HR1.out hb) x
      have HC : Hid (type_of% hcon) := hcon
      clear HA hal hx hcon
      subst hA
      by_cases hmem : x ∈ l1
      · have hd : decide (x ∈ l1) = true := decide_eq_true hmem
        rw [hd] at HC
        have hq : Hid ((((l0.take (i + 1)).filter (fun t => decide (t ∉ l1))).map (fun t => (⟨true, t⟩ : Mu))) = acc) := by
          show _ = _
          rw [HS.out, if_pos hmem, List.append_nil]
        clear HS hd
        obtain ⟨t0, t1, t2⟩ := x
        dsimp only at h0 h1 h2 HC
        go_wp2_with (go_at_call 32; refine (HC.out _ ?hb).mono ?_; (case hb => exact HB.out.alloc HL.out.2 _); rintro e w1 ⟨rfl, hb1⟩; have HB1 : Aside _ := hb1; clear hb1)
        go_roundg (l0.length - (i + 1))
        case measure => omega
        case rel => exact ⟨i + 1, acc, by first | rfl | go_num, by omega, Nat.le_refl _, hq.out.symm, Kd.R_below (Kd.R_alloc HO.out _) HB1.out, (HB.out.alloc HL.out.2 _).trans (HB1.out.mono (by have := HL.out.2; simp; omega))⟩
      · have hd : decide (x ∈ l1) = false := decide_eq_false hmem
        rw [hd] at HC
        have hq : Hid ((((l0.take (i + 1)).filter (fun t => decide (t ∉ l1))).map (fun t => (⟨true, t⟩ : Mu))) = acc ++ [⟨true, x⟩]) := by
          show _ = _
          rw [HS.out, if_neg hmem]
        clear HS hd
        obtain ⟨t0, t1, t2⟩ := x
        dsimp only at h0 h1 h2 HC
        go_wp2_with (first | (go_at_call 32; refine (HC.out _ ?hb).mono ?_; (case hb => exact HB.out.alloc HL.out.2 _); rintro e w1 ⟨rfl, hb1⟩; have HB1 : Aside _ := hb1; have e0 : w1.cell? ⟨wr.heap.size, 0, none⟩ = some (.string t0) := cell_below hb1 (by simp); have e1 : w1.cell? ⟨wr.heap.size, 1, none⟩ = some (.string t1) := cell_below hb1 (by simp); have e2 : w1.cell? ⟨wr.heap.size, 2, none⟩ = some (.string t2) := cell_below hb1 (by simp); have HL1 : Aside (w.heap.size ≤ w1.heap.size) := (by have q := hb1.size; have q2 := HL.out.2; simp at q; show _ ≤ _; omega); clear hb1) | (at_builtin; refine app_Mu (w0 := w) w.heap.size rfl (.tmp 20) (.tmp 23) rfl u5 acc ⟨true, ⟨t0, t1, t2⟩⟩ rfl (by first | (go_simp; done) | (go_simp; rfl)) ?aO ?aB HL1.out HL.out.1 ?_; (case aO => exact Kd.R_below (Kd.R_alloc HO.out _) HB1.out); (case aB => exact (HB.out.alloc HL.out.2 _).trans (HB1.out.mono (by have := HL.out.2; simp; omega))); intro v2 w2 ho hb hg1 hat; have HO2 : Aside _ := ho; have HB2 : Aside _ := hb; clear ho hb hg1 hat))
        go_roundg (l0.length - (i + 1))
        case measure => omega
        case rel => exact ⟨i + 1, _, by first | rfl | go_num, by omega, Nat.le_refl _, hq.out.symm, HO2.out, HB2.out⟩
    · have hltz : ¬ (i : Int) < (l0.length : Int) := by omega
      have HACC : Hid (acc = ((l0.filter (fun t => decide (t ∉ l1))).map (fun t => (⟨true, t⟩ : Mu)))) := by show _ = _; rw [HA.out, List.take_of_length_le (by omega)]
      clear HA
      go_wp2
      go_loopg [5, 28] l1.length (fun gk s5 sx wr => ∃ (i : Nat) (acc : List Mu), sx = .int .i64 i ∧ i ≤ l1.length ∧ l1.length - i ≤ gk ∧ Hid (acc = (netA l0 l1 ++ ((l1.take i).filter (fun t => decide (t ∉ l0))).map (fun t => (⟨false, t⟩ : Mu)))) ∧ Aside (Kd.R k27 27 wr w.heap.size (fun _ => True) s5 acc) ∧ Aside (Below w.heap.size w wr))
      case atStart => exact ⟨0, acc, rfl, Nat.zero_le _, Nat.le_refl _, by show _ = _; rw [HACC.out]; unfold netA; simp, HO.out, HB.out⟩
      case round =>
        clear HO HB HACC
        obtain ⟨i, acc, rfl, hi, hg, HA, HO, HB⟩ := hrel
        by_cases hlt : i < l1.length
        · have hltz : (i : Int) < (l1.length : Int) := by omega
          obtain ⟨ad, x, hA, hx, h0, h1, h2⟩ := el_T HR1.out rfl i hlt
          replace h0 := cell_below HB.out h0
          replace h1 := cell_below HB.out h1
          replace h2 := cell_below HB.out h2
          have hal : acc.length < 4294967296 := by
            rw [HA.out]
            have q1 := List.length_filter_le (fun t => decide (t ∉ l0)) (l1.take i)
            have q2 := List.length_take_le i l1
            have q3 := HT.out
            have q4 := netA_len l0 l1
            simp only [List.length_map, List.length_append]
            omega
          have HL : Aside (acc.length < 4294967296 ∧ w.heap.size ≤ wr.heap.size) := ⟨hal, HB.out.size⟩
          have HS : Hid ((netA l0 l1 ++ ((l1.take (i + 1)).filter (fun t => decide (t ∉ l0))).map (fun t => (⟨false, t⟩ : Mu))) = acc ++ (if x ∈ l0 then [] else [⟨false, x⟩])) := by
            show _ = _
            rw [HA.out, take_step l1 i x hx, List.filter_append, List.map_append, List.append_assoc]
            congr 2
            by_cases hq : x ∈ l0 <;> simp [hq]
          have hcon := fun W hb => contains_T A0 c0 l0 W (Kd.C_below HR0.out hb) x
          have HC : Hid (type_of% hcon) := hcon
          clear HA hal hx hcon
          subst hA
          by_cases hmem : x ∈ l0
          · have hd : decide (x ∈ l0) = true := decide_eq_true hmem
            rw [hd] at HC
            have hq : Hid ((netA l0 l1 ++ ((l1.take (i + 1)).filter (fun t => decide (t ∉ l0))).map (fun t => (⟨false, t⟩ : Mu))) = acc) := by
              show _ = _
              rw [HS.out, if_pos hmem, List.append_nil]
            clear HS hd
            obtain ⟨t0, t1, t2⟩ := x
            dsimp only at h0 h1 h2 HC
            go_wp2_with (go_at_call 32; refine (HC.out _ ?hb).mono ?_; (case hb => exact HB.out.alloc HL.out.2 _); rintro e w1 ⟨rfl, hb1⟩; have HB1 : Aside _ := hb1; clear hb1)
            go_roundg (l1.length - (i + 1))
            case measure => omega
            case rel => exact ⟨i + 1, acc, by first | rfl | go_num, by omega, Nat.le_refl _, hq.out.symm, Kd.R_below (Kd.R_alloc HO.out _) HB1.out, (HB.out.alloc HL.out.2 _).trans (HB1.out.mono (by have := HL.out.2; simp; omega))⟩
          · have hd : decide (x ∈ l0) = false := decide_eq_false hmem
            rw [hd] at HC
            have hq : Hid ((netA l0 l1 ++ ((l1.take (i + 1)).filter (fun t => decide (t ∉ l0))).map (fun t => (⟨false, t⟩ : Mu))) = acc ++ [⟨false, x⟩]) := by
              show _ = _
              rw [HS.out, if_neg hmem]
            clear HS hd
            obtain ⟨t0, t1, t2⟩ := x
            dsimp only at h0 h1 h2 HC
            go_wp2_with (first | (go_at_call 32; refine (HC.out _ ?hb).mono ?_; (case hb => exact HB.out.alloc HL.out.2 _); rintro e w1 ⟨rfl, hb1⟩; have HB1 : Aside _ := hb1; have e0 : w1.cell? ⟨wr.heap.size, 0, none⟩ = some (.string t0) := cell_below hb1 (by simp); have e1 : w1.cell? ⟨wr.heap.size, 1, none⟩ = some (.string t1) := cell_below hb1 (by simp); have e2 : w1.cell? ⟨wr.heap.size, 2, none⟩ = some (.string t2) := cell_below hb1 (by simp); have HL1 : Aside (w.heap.size ≤ w1.heap.size) := (by have q := hb1.size; have q2 := HL.out.2; simp at q; show _ ≤ _; omega); clear hb1) | (at_builtin; refine app_Mu (w0 := w) w.heap.size rfl (.tmp 36) (.tmp 39) rfl u5 acc ⟨false, ⟨t0, t1, t2⟩⟩ rfl (by first | (go_simp; done) | (go_simp; rfl)) ?aO ?aB HL1.out HL.out.1 ?_; (case aO => exact Kd.R_below (Kd.R_alloc HO.out _) HB1.out); (case aB => exact (HB.out.alloc HL.out.2 _).trans (HB1.out.mono (by have := HL.out.2; simp; omega))); intro v2 w2 ho hb hg1 hat; have HO2 : Aside _ := ho; have HB2 : Aside _ := hb; clear ho hb hg1 hat))
            go_roundg (l1.length - (i + 1))
            case measure => omega
            case rel => exact ⟨i + 1, _, by first | rfl | go_num, by omega, Nat.le_refl _, hq.out.symm, HO2.out, HB2.out⟩
        · have hltz : ¬ (i : Int) < (l1.length : Int) := by omega
          have HACC : Hid (acc = (netA l0 l1 ++ (l1.filter (fun t => decide (t ∉ l0))).map (fun t => (⟨false, t⟩ : Mu)))) := by show _ = _; rw [HA.out, List.take_of_length_le (by omega)]
          clear HA
          have hal : acc.length < 4611686018427387904 := by
            rw [HACC.out]
            have q1 := List.length_filter_le (fun t => decide (t ∉ l0)) l1
            have q3 := HT.out
            have q4 := netA_len l0 l1
            simp only [List.length_map, List.length_append]
            omega
          rw [← net_eq] at HACC
          have hs := sort_Mu w.heap.size u5 acc wr (fl_Mu HO.out) hal (by rw [HACC.out]; exact net_same l0 l1)
          have HSo : Hid (type_of% hs) := hs
          have HF : Aside (wr.ownsRow w.heap.size 27 4 u5 acc.length (acc.flatMap enMu) ∧ acc.length < 4611686018427387904 ∧ (msort ltMu acc).length = acc.length) := ⟨fl_Mu HO.out, hal, (msort_perm _ _).length_eq⟩
          clear hs hal
          go_wp2_with (first | (go_at_call 33; refine HSo.out.mono ?_; rintro e w1 ⟨rfl, ho1, hg1⟩; have HO1 : Aside _ := ho1; have HG1 : Aside _ := hg1; clear ho1 hg1) | (go_at_call 35; refine (compact_Mu w.heap.size u5 (msort ltMu acc) _ ?ho ?hl).mono ?_; (case ho => exact HO1.out); (case hl => have := HF.out; omega); rintro e w2 ⟨v2, rfl, ho2, hv2, hg2⟩; have HO2 : Aside _ := ho2; have HG2 : Aside _ := hg2; clear ho2 hg2 hv2))
          go_ret
          have b1 := below_grown HB.out HG1.out HB.out.size HF.out.1
          exact ⟨_, rfl, by rw [← HACC.out]; exact R_Mu HO2.out, below_grown b1 HG2.out b1.size HO1.out⟩
end Go.Proofs.Ytgdmdhhihoifkaa.Pr
